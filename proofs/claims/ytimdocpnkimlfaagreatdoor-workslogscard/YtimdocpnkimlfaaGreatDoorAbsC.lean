/- Operations that make a new slice. -/
import Derived.Test.YtimdocpnkimlfaaGreatDoorAbsA
set_option linter.unusedVariables false
set_option linter.unusedSimpArgs false
open Option renaming some→I,map_eq_some_iff→Ea,none→Eb,isSome_none→Rw,isSome_iff_exists→Yt
open Bool renaming false→Ec,true→Ek,and_eq_true→Jn,false_eq_true→Qn,or_false→Ebc
open Nat renaming eq_of_beq_eq_true→En,le_refl→Hb,mul_le_mul_right→Jg,beq→Jq,le_trans→Q7,add_mul→Yg,le_of_ble_eq_true→Yk,mul_le_mul→Yo,beq_refl→Eam,mul_eq_zero→Ean,ble→Eap,succ_mul→Eat,add_zero→Eau,zero_add→Eaw,blt_eq→Eba,blt→Ebf
open List renaming replicate→E3,getElem?_append_left→Ga,getElem?_eq_some_iff→Gc,getElem?_append_right→Ha,getElem?_eq_getElem→H2,getElem?_toArray→Ib,getElem?_set_self→O4,getElem?_take_of_lt→Qo,mem_of_getElem?→Qp,append_assoc→Q9,getElem?_set_ne→Rb,replicate_succ→Rc,mem_replicate→Rv,mem_append→Rx,getElem?_map→St,getElem?_eq_none→Xp,flatMap_cons→Yd,length_set→Yp,length_append→Yv,getElem?_cons_zero→Za,getElem?_cons_succ→Zb,flatten_cons→Eaa,size_toArray→Eab,mem_of_mem_take→Eac,getElem?_of_mem→Ead,nil_append→Eae,getElem?_drop→Eaf,ext_getElem?→Eag,all_eq_true→Eaj,mem_flatten→Eak,mem_map→Eal,mem_cons_of_mem→Eao,flatMap_append→Eaq,getElem?_take→Ear,mem_cons_self→Eas,set_set→Eav,getElem?_set→Eax,length_take→Eay,length_map→Eaz,mem_cons→Ebb,take→Ebd,map_cons→Ebe
open Array renaming getElem?_toList→Hu,getD_eq_getD_getElem?→If,getElem?_eq_some_iff→Jp,ext'→O3,range→O6,getElem?_append_left→Q6,size_append→Eai
open Ne renaming symm→Eah
namespace Go.Abs
section
variable {P:Program}{C C0:az}{ω:Nat→Option Loc}{w w0:World}{hp:ql}{env:Env}{a:Act}{o:Oper}{tmps:Array Value}{d:Loc}
theorem ai.strip {B}(e:ai C ω w B env tmps)(s:Option Nat):ai C ω w B (ze env s) tmps:=by
 cases s with
 |none=>exact e
 |some s=>
  simp only[ze]
  split
  ·rename_i v o hl
   intro t x hx
   simp only[ja]at hx
   cases hb:Jq s t with
   |false=>rw[hb]at hx;simp at hx;exact e t x hx
   |true=>
    rw[hb]at hx
    simp at hx
    subst hx
    obtain rfl:=En hb
    obtain⟨u,h1,h2,_⟩:=e s _ hl
    exact⟨u,h1,h2,by simp⟩
  ·exact e
theorem Xy (m:aq P C ω w0 C0 hp w)(e:ai C ω w w0.heap.size env tmps){x v}(h:bp C x v):jt P C0 w0 C tmps d env ⟨x,Ec,Eb,hp⟩ v w:=
 ⟨C,ω,az.le_refl C,m,e,h,by simp⟩
theorem Hv (m:aq P C ω w0 C0 hp w)(e:ai C ω w w0.heap.size env tmps)(cells:Array Value)(t:TypeId)(xs:List AVal)(sz cap:Nat)(vs:List Value)(hr:aF C (xs.flatMap AVal.flat) vs)
  (hv:∀(j:Nat) v,vs[j]?=I v→cells[j]?=I v) (h1:∀v∈vs,v.oneCell'=Ek) (hs:∀x∈xs,x.flat.length=sz) (hcap:xs.length≤cap) (bT:cap*sz≤cells.size) (s:Option Nat):
  jt P C0 w0 C tmps d env ⟨.list Ec sz xs,Ek,s,hp⟩ (.slice (I ⟨w.heap.size,0,Eb⟩) xs.length cap) (w.alloc (.cells cells t)):=by
 have hn:∀o,C.K w.heap.size o=Eb:=m.iE _ (Hb _)
 have hx:Ext w (w.alloc (.cells cells t)):=Ext.alloc w _ (fun c t fr h=>by cases h;rfl)
 have m1:=(m.newRow cells t vs hv h1)
 have N1:∀ℓ x v,aB C ω w w0.heap.size ℓ x v→aB (C.put w.heap.size 0 vs) (b4 ω w.heap.size d) (w.alloc (.cells cells t)) w0.heap.size ℓ x v:=fun ℓ x v ho=>((ho.fresh (Hb _)).put vs (.inl (Hb _))).ext hx
 have hle:=az.fM (C:=C) (off:=0) vs (fun o _=>hn o)
 have hcells:=az.eu (C:=C) (off:=0) (fun o _=>hn o) hr
 have hl:vs.length=xs.length*sz:=by rw[hr.length,yl xs hs]
 refine⟨C.put w.heap.size 0 vs,b4 ω w.heap.size d,hle,?_,?_,?_,?_⟩
 ·exact { m1 with box:=fun b x r ew hb=>((m.box b x r ew hb).mono hle fun j y v ho=>(ho.fresh (Hb _)).put vs (.inl (Hb _))).ext hx }
 ·refine ai.strip ?_ s
  exact fun t x hx=>let ⟨v,h1,h2,h3⟩:=e t x hx; ⟨v,h1,ay.mono hle h2,fun h=>N1 _ _ _ (h3 h)⟩
 ·exact .list _ _ _ _ _ hcap (aO.ea hcells hs)
 ·intro _
  refine⟨by simp[b4],.inl m.size,?_,rfl,rfl,⟨cells,t,by rw[rP,if_pos rfl],by simpa using bT,eb.sized hs⟩,?_⟩
  ·intro b hb
   have:=(m.lt b _ hb).1
   simp at this
  ·intro o ho
   simp only[az.put]
   rw[if_neg (by simp at ho;omega)]
   exact hn o
theorem Hw {zs:List Value}{sz}(hz:zs.length=sz)(hs:0<sz):∀(n:Nat),(List.range (n*sz)).map (fun i=>zs.toArray[i % zs.toArray.size]!)=(E3 n zs).flatten
 |0=>by simp
 |n+1=>by
  rw[Eat,List.range_add,List.map_append,Hw hz hs n,List.replicate_succ',List.flatten_append]
  congr 1
  simp only[List.map_map,Eaa,List.flatten_nil,List.append_nil]
  apply Eag
  intro j
  rw[St]
  by_cases hj:j<sz
  ·rw[List.getElem?_range hj]
   simp only[Option.map_some,Function.comp,Eab,hz]
   rw[Nat.mul_add_mod_self_right,Nat.mod_eq_of_lt hj]
   rw[H2 (by omega),getElem!_pos _ _ (by simpa[hz]using hj)]
   simp
  ·rw[Xp (by simpa using hj),Xp (by omega)]
   rfl
theorem aF.replicate {zs vs}(h:aF C zs vs):∀n:Nat,aF C (E3 n zs).flatten (E3 n vs).flatten
 |0=>.nil
 |n+1=>by
  rw[Rc,Rc,Eaa,Eaa]
  exact aF.append h (aF.replicate h n)
def qH (sz:Nat)(zero:List AVal):AVal:=bif Jq sz 1 then zero.headD .undef else .agg zero
theorem N2 {sz zero}(hz:zero.length=sz)(hs:∀z∈zero,z.isAgg=Ec):(qH sz zero).flat=zero:=by
 unfold qH
 cases hb:Jq sz 1 with
 |false=>rfl
 |true=>
  obtain rfl:=En hb
  obtain⟨z,rfl⟩:=List.length_eq_one_iff.1 hz
  exact qag (hs z (by simp))
theorem Xz {sz zero}(hz:zero.length=sz)(hs:∀z∈zero,z.isAgg=Ec)(n:Nat):(E3 n (qH sz zero)).flatMap AVal.flat=(E3 n zero).flatten:=by
 induction n with
 |zero=>rfl
 |succ n ih=>rw[Rc,Yd,N2 hz hs,ih,Rc,Eaa]
theorem qur {v x}(h:AX v=I x):qk x=Ek∧v.oneCell'=Ek:=by
 unfold AX at h
 split at h<;>first|cases h|skip
 all_goals exact⟨rfl,rfl⟩
theorem XA:∀ {vs:List Value} {xs:List AVal},rO vs=I xs→(∀x∈xs,qk x=Ek)∧∀v∈vs,v.oneCell'=Ek
 | [],xs,h=>by simp[rO]at h;subst h;simp
 |v::vs,xs,h=>by
  simp only[rO]at h
  split at h
  ·rename_i x hx
   split at h
   ·rename_i ys lA
    cases h
    obtain⟨h1,h2⟩:=qur hx
    obtain⟨h3,h4⟩:=XA lA
    exact⟨by simpa using⟨h1,h3⟩,by simpa using⟨h2,h4⟩⟩
   ·cases h
  ·cases h
theorem XB {x}(h:qk x=Ek):x.isAgg=Ec:=by cases x<;>simp[qk,AVal.isAgg]at *
theorem yu {t:TypeId}{z}(h:zq P t=I z):(∀x∈z,qk x=Ek)∧∃v,(∀w,(zeroValue t).run P w=.ok v w)∧aF C z v.cells.toList∧∀u∈v.cells.toList,u.oneCell'=Ek:=by
 unfold zq at h
 split at h
 ·rename_i i hi
  split at h
  ·rename_i v hv
   obtain⟨h1,h2⟩:=XA h
   exact⟨h1,v,fun w=>by simp[zeroValue,typeInfo,hi,hv],Hm C h,h2⟩
  ·cases h
 ·cases h
theorem N3 {x v}(h:bp C x v)(hs:qk x=Ek):v.oneCell'=Ek:=by
 cases h<;>first|rfl|(simp[qk]at hs)
theorem vf {xs}:∀ {vs:List Value},aF C xs vs→(∀x∈xs,qk x=Ek)→∀v∈vs,v.oneCell'=Ek:=by
 induction xs with
 |nil=>intro vs h _ v hv;cases h;cases hv
 |cons x xs ih=>
  intro vs h hs v hv
  cases h with
  |cons _ _ u us hx h=>
   rcases Ebb.1 hv with rfl|hv
   ·exact N3 hx (hs x (by simp))
   ·exact ih h (fun y hy=>hs y (by simp[hy])) v hv
theorem XD:∀ (qs:List (Nat×List AVal)) (xs ys:List AVal),iD xs qs=I ys→(∀x∈xs,qk x=Ek)→(∀q∈qs,∀x∈q.2,qk x=Ek)→∀y∈ys,qk y=Ek
 | [],xs,ys,h,hx,_=>by simp[iD]at h;subst h;exact hx
 |(off,vs)::qs,xs,ys,h,hx,hq=>by
  simp only[iD]at h
  cases hb:Eap (off+vs.length) xs.length with
  |false=>simp[hb]at h
  |true=>
   simp only[hb,cond_true]at h
   refine XD qs _ ys h ?_ (fun q h=>hq q (by simp[h]))
   intro x h
   simp only[Rx]at h
   rcases h with(h|h)|h
   ·exact hx x (Eac h)
   ·exact hq (off,vs) (by simp) x h
   ·exact hx x (List.mem_of_mem_drop h)
theorem XE {sz}:∀(ps:List (Nat×jd)) (qs:List (Nat×AVal)),zh env sz ps=I qs→∀q∈qs,∀x∈q.2.flat,qk x=Ek
 | [],qs,h=>by simp[zh]at h;subst h;simp
 |(i,x)::ps,qs,h=>by
  simp only[zh]at h
  split at h
  ·rename_i v mb
   cases hb:(Jq v.flat.length sz&&v.flat.all qk)with
   |false=>simp[hb]at h
   |true=>
    simp only[hb,cond_true]at h
    simp only[Jn,Eaj]at hb
    split at h
    ·rename_i r hr
     cases h
     intro q hq
     rcases Ebb.1 hq with rfl|hq
     ·exact hb.2
     ·exact XE ps r hr q hq
    ·cases h
  ·cases h
theorem XF (e:ai C ω w w0.heap.size env a.tmps){t el:TypeId}{ps len sz z fi qs xs}
  (ho:o.op=.buildSlice t len ps) (ht:P.underlying t=I (.slice el)) (hn:jc P el=I sz) (hz:zq P el=I z) (hlen:sz*len≤65536) (h0:0<sz) (gv:z.length=sz)
  (la:tj ps.toList=I fi) (hq:zh env sz fi=I qs) (hx:kB (E3 len (qH sz z)) qs=I xs):
  ∃ds,(execOp a.eval o).run P w=.ok (.value (.slice (I ⟨w.heap.size,0,Eb⟩) len len)) (w.alloc (.cells ds el))∧aF C (xs.flatMap AVal.flat) ds.toList∧(∀v∈ds.toList,v.oneCell'=Ek)∧(∀x∈xs,x.flat.length=sz)∧xs.length=len∧len*sz≤ds.size:=by
 obtain⟨ot,zv,jT,b8,kH⟩:=yu (C:=C) hz
 have tu:∀x∈z,x.isAgg=Ec:=fun x h=>XB (ot x h)
 have lC:zv.cells.toList.length=sz:=by rw[b8.length,gv]
 have iG:((O6 (len*sz)).map (fun i=>zv.cells[i % zv.cells.size]!)).toList=(E3 len zv.cells.toList).flatten:=by
  have:=Hw lC h0 len
  simpa using this
 obtain⟨oz,hqs⟩:=Xv e.bJ ps.toList fi qs la hq
 obtain⟨hf,nH,kD⟩:=Xx (sz:=sz) qs _ xs hx (by
  intro x h
  obtain⟨_,rfl⟩:=Rv.1 h
  rw[N2 gv tu,gv]) hqs
 rw[Xz gv tu]at hf
 obtain⟨ds,hd,hdr⟩:=Ht _ _ _ _ ((O6 (len*sz)).map (fun i=>zv.cells[i % zv.cells.size]!)) (by rw[iG];exact b8.replicate len) hf oz
 have iH:xs.length=len:=by simpa using kD
 have hsc:∀y∈xs.flatMap AVal.flat,qk y=Ek:=XD _ _ _ hf (by
  intro x h
  rw[Eak]at h
  obtain⟨l,h1,h2⟩:=h
  obtain⟨_,rfl⟩:=Rv.1 h1
  exact ot x h2) (by
  intro q hq1 x uY
  obtain⟨p,iI,rfl⟩:=Eal.1 hq1
  exact XE fi qs hq p iI x uY)
 have N4:ds.toList.length=len*sz:=by rw[hdr.length,yl xs nH,iH]
 refine⟨ds,?_,hdr,vf hdr hsc,nH,iH,by simp at N4;omega⟩
 ·have A8:(ps.map fun(x:Nat×Operand)=>(x.1,a.eval x.2)).toList=ps.toList.map fun x=>(x.1,a.eval x.2):=by simp
  have hle:¬(16777216<len*sz):=by rw[Nat.mul_comm];omega
  by_cases CY:len=0
  ·subst CY
   have hr:O6 0=#[]:=rfl
   rw[Nat.zero_mul,hr,Array.map_empty]at hd
   simp only[execOp,ho,Instr.buildSlice,Sem.run_bind,run_underlying ht,Result.andThen_ok,zk hn,A8]
   simp[hr,hd,newRow]
  ·have aS:¬(len*sz=0):=by
    intro h
    rcases Ean.1 h with h|h<;>omega
   simp only[execOp,ho,Instr.buildSlice,Sem.run_bind,run_underlying ht,Result.andThen_ok,zk hn,A8]
   simp[hle,aS,jT,hd,newRow]
theorem qsl (m:aq P C ω w0 C0 hp w)(e:ai C ω w w0.heap.size env a.tmps){t el:TypeId}{ps len sz z fi qs xs}
  (ho:o.op=.buildSlice t len ps) (ht:P.underlying t=I (.slice el)) (hn:jc P el=I sz) (hz:zq P el=I z) (hlen:sz*len≤65536) (h0:0<sz) (gv:z.length=sz)
  (la:tj ps.toList=I fi) (hq:zh env sz fi=I qs) (hx:kB (E3 len (qH sz z)) qs=I xs):
  ∃v w',(execOp a.eval o).run P w=.ok (.value v) w'∧jt P C0 w0 C a.tmps d env ⟨.list Ec sz xs,Ek,Eb,hp⟩ v w':=by
 obtain⟨ds,aY,hdr,h1,nH,iH,bT⟩:=XF (C:=C) (ω:=ω) (w:=w) (w0:=w0) e ho ht hn hz hlen h0 gv la hq hx
 refine⟨_,_,aY,?_⟩
 have eg:=Hv (d:=d) (tmps:=a.tmps) m e ds el xs sz len ds.toList hdr (by intro j v h;simpa using h) h1 nH (by omega) bT Eb
 rw[iH]at eg
 exact eg
theorem q0e (m:aq P C ω w0 C0 hp w)(e:ai C ω w w0.heap.size env a.tmps){t el:TypeId}{x y:Operand}{x' y':jd}{n sz b:Nat}{z}
  (ho:o.op=.makeSlice t x y) (ht:P.underlying t=I (.slice el)) (hn:jc P el=I sz) (hb:l6 P el=I b) (hz:zq P el=I z) (h0:0<sz) (gv:z.length=sz)
  (h1:qt x=I x') (h2:qt y=I y') (e1:qg env x'=I (.int .i64 (n:Int))) (e2:qg env y'=I (.int .i64 (n:Int))) (hle:n≤1073741824) (ig:b≤4096):
  ∃v w',(execOp a.eval o).run P w=.ok (.value v) w'∧jt P C0 w0 C a.tmps d env ⟨.list Ec sz (E3 n (qH sz z)),Ek,Eb,hp⟩ v w':=by
 obtain⟨ot,zv,jT,b8,kH⟩:=yu (C:=C) hz
 have tu:∀x∈z,x.isAgg=Ec:=fun x h=>XB (ot x h)
 have lC:zv.cells.toList.length=sz:=by rw[b8.length,gv]
 have iG:((O6 (n*sz)).map (fun i=>zv.cells[i % zv.cells.size]!)).toList=(E3 n zv.cells.toList).flatten:=by
  have:=Hw lC h0 n
  simpa using this
 have r1:=(qu e.bJ h1 e1).br
 have r2:=(qu e.bJ h2 e2).br
 have nH:∀x∈E3 n (qH sz z),x.flat.length=sz:=by
  intro x h
  obtain⟨_,rfl⟩:=Rv.1 h
  rw[N2 gv tu,gv]
 have fq:aF C ((E3 n (qH sz z)).flatMap AVal.flat) ((O6 (n*sz)).map (fun i=>zv.cells[i % zv.cells.size]!)).toList:=by
  rw[Xz gv tu,iG];exact b8.replicate n
 obtain⟨i,hi,oA⟩:∃i,P.info? el=I i∧i.bytes=b:=by
  unfold l6 at hb
  cases hi:P.info? el with
  |none=>simp[hi]at hb
  |some i=>exact⟨i,rfl,by simpa[hi]using hb⟩
 have iY:i.size=sz:=by
  unfold jc at hn
  rw[hi]at hn
  simpa using hn
 have oB:IntKind.i64.wrap (n:Int)=n:=by
  rw[←rQ];unfold qh
  have:oi .i64 (n:Int)=Ek:=by simp[oi];exact Q7 hle (by decide)
  rw[this];rfl
 have uV:b*n≤281474976710656:=Q7 (Yo ig hle) (by decide)
 have eg:=Hv (d:=d) (tmps:=a.tmps) m e ((O6 (n*sz)).map (fun i=>zv.cells[i % zv.cells.size]!)) el (E3 n (qH sz z)) sz n _ fq (by intro j v h;rw[Hu]at h;exact h) (by
   rw[iG]
   intro v hv
   rw[Eak]at hv
   obtain⟨l,q1,q2⟩:=hv
   obtain⟨_,rfl⟩:=Rv.1 q1
   exact kH v q2) nH (by simp) (by simp) Eb
 rw[List.length_replicate]at eg
 refine⟨_,_,?_,eg⟩
 have c1:¬((b:Int)*(n:Int) > 2^48):=by
  have h1:((b*n:Nat):Int)≤281474976710656:=Int.ofNat_le.2 uV
  rw[Int.natCast_mul]at h1
  have h2:(2:Int)^48=281474976710656:=by decide
  rw[h2];omega
 have c2:¬((n:Int)<0):=by omega
 have hr:O6 0=#[]:=rfl
 simp only[execOp,ho,Instr.makeSlice,Sem.run_bind,run_underlying ht,r1,r2,asInt,asIntOf,Sem.run_pure,Result.andThen_ok,typeInfo,run_program,hi,oA,oB,c2,c1,decide_false,Ebc,Qn,if_false,Int.lt_irrefl,gt_iff_lt,run_askRoom,Int.toNat_natCast,zk hn,newRow]
 by_cases u0:n=0
 ·subst u0
  simp[hr]
 ·have aS:¬(n*sz=0):=by
   intro h
   rcases Ean.1 h with h|h<;>omega
  simp[aS,jT]
end
structure fO (w w':World)(r:Nat)(cs:Array Value):Prop where
 at_:∃t,w'.heap[r]?=I (.cells cs t (0,0))
 size:w'.heap.size=w.heap.size
 other:∀k,k≠r→w'.heap[k]?=w.heap[k]?
 os:w'.os=w.os
 output:w'.output=w.output
theorem CZ {w r old}{t:TypeId}(h:w.heap[r]?=I (.cells old t (0,0)))(cs:Array Value):fO w (w.setRow r cs) r cs:=
 ⟨⟨t,setRow_heap w r old cs t (0,0) h⟩,setRow_size w r cs,fun k hk=>setRow_other w r k cs hk,rfl,rfl⟩
section
variable {P:Program}{C C0:az}{ω:Nat→Option Loc}{w w' w0:World}{hp:ql}{env:Env}{a:Act}{o:Oper}{tmps:Array Value}{d:Loc}
theorem aB.gQ {B r cs ℓ x v}(hu:fO w w' r cs)(hr:ω r≠I ℓ)(ho:aB C ω w B ℓ x v):aB C ω w' B ℓ x v:=by
 unfold aB at *
 split at ho
 ·rename_i a len cap
  obtain⟨h1,h2,h3,h4,h8,⟨cells,elem,h5,h6⟩,h7⟩:=ho
  refine⟨h1,h2,h3,h4,h8,⟨cells,elem,?_,h6⟩,h7⟩
  rw[hu.other _ (fun h=>hr (h▸h1))]
  exact h5
 ·rename_i a
  obtain⟨h1,h2,h3,h4,h8,⟨cells,elem,h5,h6⟩,h7⟩:=ho
  refine⟨h1,h2,h3,h4,h8,⟨cells,elem,?_,h6⟩,h7⟩
  rw[hu.other _ (fun h=>hr (h▸h1))]
  exact h5
 ·trivial
theorem aX.gQ {B b r r' cs x}(hu:fO w w' r cs)(aS:r'≠r)(hr:∀j,ω r≠I (.cell b j))(hb:aX P C ω w B b r' x):aX P C ω w' B b r' x:=by
 have hg:=hu.other r' aS
 cases x with
 |hole=>exact hb
 |cells dV=>
  obtain⟨vs,elem,h1,h2,h3⟩:=hb
  exact⟨vs,elem,by rw[hg];exact h1,h2,fun j c hc=>let ⟨v,a,q,b,d⟩:=h3 j c hc; ⟨v,a,q,b,fun e=>(d e).gQ hu (hr j)⟩⟩
 |map es=>obtain⟨bE,clock,h1,h2⟩:=hb;exact⟨bE,clock,by rw[hg];exact h1,h2⟩
 |iter s pos=>show w'.heap[r']?=_;rw[hg];exact hb
 |loop l=>obtain⟨lp,h1,h2⟩:=hb;exact⟨lp,by rw[hg];exact h1,h2⟩
 |fm t e l=>obtain⟨p,v,h1,h2,h3,h4⟩:=hb;exact⟨p,v,by rw[hg];exact h1,h2,h3,h4.gQ hu (hr 1)⟩
 |dead=>obtain⟨cs,t,h1⟩:=hb;exact⟨cs,t,by rw[hg];exact h1⟩
 |vec sz bm xs=>exact dv.imp (fun _ _ _ h=>h) (fun _ h=>h) (fun _ h _=>h) hg (fun q n cap k=>⟨hu.other q (fun hq=>hr 0 (hq▸k.1)),k.gQ hu (hr 0)⟩) hb
theorem XG (m:aq P C ω w0 C0 hp w)(e:ai C ω w w0.heap.size env tmps){r q cells}{t:TypeId}{news s}(hω:ω r=I (.slot s))(hB:w0.heap.size≤r∨C.W r)(hβ:∀b,C.β b≠I r)
  (hg:w.heap[r]?=I (.cells cells t (0,0))) (bT:q+news.length≤cells.size) (hK:∀o,q≤o→C.K r o=Eb) (h1:∀v∈news,v.oneCell'=Ek):
  aq P (C.put r q news) (b4 ω r d) w0 C0 hp (w.setRow r (cells.toList.take q++news++cells.toList.drop (q+news.length)).toArray) ∧
  ai (C.put r q news) (b4 ω r d) (w.setRow r (cells.toList.take q++news++cells.toList.drop (q+news.length)).toArray) w0.heap.size (ze env (I s)) tmps∧C.le (C.put r q news):=by
 have hu:=CZ hg (cells.toList.take q++news++cells.toList.drop (q+news.length)).toArray
 generalize N5:w.setRow r (cells.toList.take q++news++cells.toList.drop (q+news.length)).toArray=w' at hu
 have hle:=az.fM (C:=C) (off:=q) news hK
 have cn:∀ℓ x v,ℓ≠.slot s→aB C ω w w0.heap.size ℓ x v→aB (C.put r q news) (b4 ω r d) w' w0.heap.size ℓ x v:=by
  intro ℓ x v hℓ ho
  have aS:ω r≠I ℓ:=by rw[hω];intro h;exact hℓ (I.inj h).symm
  have h2:aB (C.put r q news) ω w' w0.heap.size ℓ x v:=(ho.put news (.inr aS)).gQ hu aS
  exact h2.other (.inl aS)
 refine⟨?_,?_,hle⟩
 ·have C4:=hu.size
  refine { base:=m.base,know:=?_,cE:=?_,apart:=?_,inj:=m.inj,lt:=?_,size:=?_,frame:=?_,eC:=?_,os:=hu.os.trans m.os,output:=hu.output.trans m.output,fresh:=m.fresh,grown:=az.le_trans m.grown hle,old:=?_,box:=?_,gK:=fun q hq=>by rw[hu.size];exact m.gK q hq }
  ·intro b p v hk
   simp only[az.put]at hk
   split at hk
   ·rename_i hc
    obtain⟨rfl,h2,h3⟩:=hc
    obtain⟨t',C5⟩:=hu.at_
    simp only[World.cell?,C5]
    rw[Ib,Q9,Ha (by simp;omega),Ga (by simp;omega)]
    have:(Ebd q cells.toList).length=q:=by simp;omega
    rw[this]
    simpa using hk
   ·by_cases hb:b=r
    ·subst hb
     have aC:p<q:=by
      rcases Nat.lt_or_ge p q with h|h
      ·exact h
      ·rw[hK p h]at hk;cases hk
     have hc:=m.know _ _ _ hk
     obtain⟨t',C5⟩:=hu.at_
     simp only[World.cell?,hg]at hc
     simp only[World.cell?,C5]
     simp only[Rw,Qn,if_false]at hc ⊢
     rw[Ib,Q9,Ga (by simp;omega),Qo aC,Hu]
     exact hc
    ·have hc:=m.know _ _ _ hk
     simp only[World.cell?]at hc ⊢
     rw[hu.other b hb]
     exact hc
  ·intro b p v hk
   simp only[az.put]at hk
   split at hk
   ·exact h1 v (Qp hk)
   ·exact m.cE b p v hk
  ·intro b p o hb
   simp only[az.put]
   rw[if_neg]
   ·exact m.apart b p o hb
   ·rintro ⟨rfl,_⟩;exact hβ b hb
  ·intro b p hb
   rw[C4];exact m.lt b p hb
  ·rw[C4];exact m.size
  ·intro k hk hn hw
   have gw:k≠r:=fun h=>by
    subst h
    rcases hB with h|h
    ·omega
    ·rw[m.grown.w]at h;exact hw h
   rw[hu.other k gw];exact m.frame k hk hn hw
  ·intro k hk
   have gw:k≠r:=fun h=>by
    subst h
    have:=m.eC k hk
    rw[hg]at this;cases this
   rw[hu.other k gw];exact m.eC k hk
  ·intro k o hk hw
   have gw:k≠r:=fun h=>by
    subst h
    rcases hB with h|h
    ·omega
    ·rw[m.grown.w]at h;exact hw h
   simp only[az.put]
   rw[if_neg (by rintro ⟨h,_⟩;exact gw h)]
   exact m.old k o hk hw
  ·intro b x p hx hb
   have aS:p≠r:=fun h=>hβ b (h▸hb)
   have qI:=m.box b x p hx hb
   have jU:aX P C ω w' w0.heap.size b p x:=qI.gQ hu aS (fun j=>by rw[hω];simp)
   refine jU.mono hle fun j y v ho=>?_
   have kJ:ω r≠I (.cell b j):=by rw[hω];simp
   exact(ho.put news (.inr kJ)).other (.inl kJ)
 ·intro t x hx
  have hlk:∃v o,ja s env=I (v,o)∨ja s env=Eb:=by
   cases h:ja s env with
   |none=>exact⟨.undef,Ec,.inr rfl⟩
   |some x=>exact⟨x.1,x.2,.inl rfl⟩
  by_cases kK:t=s
  ·subst kK
   simp only[ze]at hx
   cases hl:ja t env with
   |none=>rw[hl]at hx;simp only[hl]at hx;cases hx
   |some y=>
    rw[hl]at hx
    simp only[ja,Eam,cond_true]at hx
    cases hx
    obtain⟨v,h2,h3,_⟩:=e t y hl
    exact⟨v,h2,ay.mono hle h3,by simp⟩
  ·have ew:ja t env=I x:=by
    simp only[ze]at hx
    cases hl:ja s env with
    |none=>rw[hl]at hx;exact hx
    |some y=>
     rw[hl]at hx
     simp only[ja]at hx
     have:Jq s t=Ec:=by
      cases hb:Jq s t with
      |false=>rfl
      |true=>exact absurd (En hb).symm kK
     rw[this]at hx
     exact hx
   obtain⟨v,h2,h3,h4⟩:=e t x ew
   exact⟨v,h2,ay.mono hle h3,fun h=>cn _ _ _ (by simp[kK]) (h4 h)⟩
theorem N6 {t tx ty e:TypeId}{i:TypeInfo}(ht:P.underlying t=I (.slice e))(hi:P.info? e=I i)(r off lD vg:Nat)(x:Value)(n:Nat)(news:List Value)(hs:Src P i.size tx x n news w)(dG:lD+n≤vg)
  {cells} {te:TypeId} (hg:w.heap[r]?=I (.cells cells te (0,0))) (bT:off+lD*i.size+news.length≤cells.size):
  (Builtin.append_ #[t,tx] ty #[.slice (I ⟨r,off,Eb⟩) lD vg,x]).run P w =
   .ok (.slice (I ⟨r,off,Eb⟩) (lD+n) vg) (w.setRow r (cells.toList.take (off+lD*i.size)++news++cells.toList.drop (off+lD*i.size+news.length)).toArray):=by
 have bH:=run_storeCells_at (P:=P) r (off+lD*i.size) te news 0 cells w hg (by simpa using bT) hs.one
 simp only[Eau]at bH
 rcases hs.kind with⟨e',hk⟩|hk<;>simp[Builtin.append_,run_underlying ht,run_underlying hk,sizeOf,typeInfo,hi,hs.len,dG,hs.cells,Addr.add_lit,bH]
theorem qjf {t tx ty e:TypeId}{i:TypeInfo}(ht:P.underlying t=I (.slice e))(hi:P.info? e=I i)(x:Value)(hs:Src P i.size tx x 0 [] w):
  (Builtin.append_ #[t,tx] ty #[.slice Eb 0 0,x]).run P w=.ok (.slice Eb 0 0) w:=by
 rcases hs.kind with⟨e',hk⟩|hk<;>simp[Builtin.append_,run_underlying ht,run_underlying hk,sizeOf,typeInfo,hi,hs.len,hs.cells]
theorem Hx (m:aq P C ω w0 C0 hp w){u:TypeId}{ut:TypeDesc}{sz vy ys v}(hu:P.underlying u=I ut)(ij:uP ut=Ek)(h:j9 sz vy=I ys)(hr:bp C vy v):
  ∃news,Src P sz u v ys.length news w∧aF C (ys.flatMap AVal.flat) news∧(∀y∈ys,y.flat.length=sz)∧∀x∈news,x.oneCell'=Ek:=by
 have hk:(∃e',P.underlying u=I (.slice e'))∨P.underlying u=I .string:=by
  cases ut<;>simp[uP]at ij
  ·exact .inr hu
  ·exact .inl ⟨_,hu⟩
 cases vy with
 |list n sy mf=>
  simp only[j9]at h
  cases hb:(Jq sz sy||mf.isEmpty)with
  |false=>simp[hb]at h
  |true=>
   simp only[hb,cond_true,I.injEq]at h
   subst h
   rcases hr.cu with⟨rfl,rfl,rfl⟩|⟨rfl,r,q,cap,rfl,_,cA⟩|⟨rfl,rfl,ad,_,rfl⟩
   ·exact⟨[],⟨hk,fun _=>rfl,run_firstCells_none w sz 0 0 0,run_firstCells_none w.drew sz 0 0 0,by simp,by simp⟩,.nil,by simp,by simp⟩
   ·obtain⟨news,h1,h2⟩:=bO.vals cA.cells
    have h3:∀x∈news,x.oneCell'=Ek:=fun x hx=>by
     obtain⟨j,hj⟩:=Ead hx
     exact m.cE _ _ _ (h2 j x hj)
    have cr:∀y∈mf,y.flat.length=sz:=by
     intro y hy
     rcases Bool.or_eq_true _ _▸hb with hb|hb
     ·rw[En hb];exact cA.sized y hy
     ·rw[List.isEmpty_iff.1 hb]at hy;cases hy
    have hl:news.length=mf.length*sz:=by rw[h1.length,yl mf cr]
    have hc:∀j u,news[j]?=I u→w.cell? ((⟨r,q,Eb⟩:Addr).add j)=I u:=fun j u hj=>by rw[add_lit];exact m.know _ _ _ (h2 j u hj)
    refine⟨news,⟨hk,fun _=>rfl,run_firstCells_some w sz _ _ _ _ news hl hc,run_firstCells_some w.drew sz _ _ _ _ news hl (by simpa using hc),hl,h3⟩,h1,cr,h3⟩
   ·exact⟨[],⟨hk,fun _=>rfl,run_firstCells_some w sz _ _ _ _ [] (by simp) (by simp),run_firstCells_some w.drew sz _ _ _ _ [] (by simp) (by simp),by simp,by simp⟩,.nil,by simp,by simp⟩
 |str s=>
  simp only[j9]at h
  cases hb:Jq sz 1 with
  |false=>simp[hb]at h
  |true=>
   simp only[hb,cond_true,I.injEq]at h
   obtain rfl:=En hb
   subst h
   obtain rfl:=hr.bL
   have iJ:∀l:List UInt8,(l.map fun(c:UInt8)=>AVal.int .u8 c.toNat).flatMap AVal.flat=l.map fun(c:UInt8)=>AVal.int .u8 c.toNat:=by
    intro l;induction l with
    |nil=>rfl
    |cons c l ih=>simp only[Ebe,Yd,ih];rfl
   have fq:∀l:List UInt8,aF C (l.map fun(c:UInt8)=>AVal.int .u8 c.toNat) (l.map fun b=>Value.int .u8 b.toNat):=by
    intro l;induction l with
    |nil=>exact .nil
    |cons c l ih=>exact .cons _ _ _ _ (.int _ _) ih
   refine⟨byteCells ⟨⟨s⟩⟩,⟨hk,fun w'=>by simp[Builtin.lenOf];rfl,?_,?_,?_,?_⟩,?_,?_,?_⟩
   ·rw[Eaz];exact firstCells_string (P:=P) ⟨⟨s⟩⟩ w
   ·rw[Eaz];exact firstCells_string (P:=P) ⟨⟨s⟩⟩ w.drew
   ·simp[byteCells]
   ·intro u hu;obtain⟨_,_,rfl⟩:=Eal.1 hu;rfl
   ·rw[iJ];simpa[byteCells]using fq s
   ·intro y hy;obtain⟨_,_,rfl⟩:=Eal.1 hy;rfl
   ·intro u hu;obtain⟨_,_,rfl⟩:=Eal.1 hu;rfl
 |_=>simp[j9]at h
theorem C6 {x s}(h:jy env x=I s):x=.tmp s∧∃v,ja s env=I (v,Ek):=by
 unfold jy at h
 split at h
 ·split at h
  ·rename_i t v hl
   cases h
   exact⟨rfl,v,hl⟩
  ·cases h
 ·cases h
theorem XH (e:ai C ω w w0.heap.size env a.tmps){x x' sz len cap xs ad}(h1:qt x=I x')(cn:(jy env x').isSome=Ek)(e1:qg env x'=I (.list Ec sz xs))(hx:a.eval x=.slice (I ad) len cap):ad.spot=Eb:=by
 obtain⟨s,gR⟩:=Yt.1 cn
 obtain⟨ew,v0,hl⟩:=C6 gR
 have rT:v0=.list Ec sz xs:=by
  subst ew
  simp only[qg,hl]at e1
  exact I.inj e1
 subst rT
 obtain⟨cv,tv,Hy,vh⟩:=e s _ hl
 have nh:cv=.slice (I ad) len cap:=by
  have gS:qt x=I (.tmp s):=by rw[h1,ew]
  cases x with
  |tmp t'=>
   simp only[qt]at gS
   cases gS
   have:a.eval (.tmp s)=cv:=by simp[Act.eval,If,tv]
   rw[←this,hx]
  |const u=>simp only[qt]at gS;split at gS<;>cases gS
  |func f=>simp[qt]at gS
  |global g=>simp[qt]at gS
 subst nh
 exact(vh rfl).2.2.2.1
theorem q3g (m:aq P C ω w0 C0 hp w)(e:ai C ω w w0.heap.size env a.tmps){c}{t u el:TypeId}{ut:TypeDesc}{x y x' y' sz b n cD xs ys vy}
  (ho:o.op=.call c) (dk:c.callee=.builtin .append) (dy:c.args.toList=[x,y]) (dX:c.argTypes.toList=[t,u]) (ht:P.underlying t=I (.slice el)) (hu:P.underlying u=I ut) (ij:uP ut=Ek)
  (hn:jc P el=I sz) (hb:l6 P el=I b) (h1:qt x=I x') (h2:qt y=I y') (e1:qg env x'=I (.list n cD xs)) (e2:qg env y'=I vy) (cw:j9 sz vy=I ys)
  (cn:n=Ek∨(jy env x').isSome=Ek) (vi:sz=cD∨(xs=[]∧n=Ek)) (hlen:xs.length+ys.length≤1073741824) (ig:b≤4096) (hzero:∃z,zq P el=I z∧z.length=sz):
  ∃v w',(execOp a.eval o).run P w=.ok (.value v) w'∧jt P C0 w0 C a.tmps d env ⟨ol n sz xs ys,Ek,jy env x',hp⟩ v w':=by
 have ha:c.args=#[x,y]:=by apply O3;simpa using dy
 have kG:c.argTypes=#[t,u]:=by apply O3;simpa using dX
 obtain⟨i,hi,oA⟩:∃i,P.info? el=I i∧i.bytes=b:=by
  unfold l6 at hb
  cases hi:P.info? el with
  |none=>simp[hi]at hb
  |some i=>exact⟨i,rfl,by simpa[hi]using hb⟩
 have iY:i.size=sz:=by
  unfold jc at hn;rw[hi]at hn;simpa using hn
 obtain⟨z,hz,vj⟩:=hzero
 obtain⟨zv,lE⟩:∃zv,i.zero=I zv:=by
  unfold zq at hz;rw[hi]at hz
  cases hq:i.zero with
  |none=>simp[hq]at hz
  |some v=>exact⟨v,rfl⟩
 have rx:=qu e.bJ h1 e1
 have ry:=qu e.bJ h2 e2
 obtain⟨news,hs,cx,eZ,cy⟩:=Hx m hu ij cw ry
 have eh:∀ {z:Value} {w':World},(Builtin.append_ #[t,u] o.type #[a.eval x,a.eval y]).run P w=.ok z w'→(execOp a.eval o).run P w=.ok (.value z) w':=by
  intro z w' h
  simp[execOp,ho,resolve,dk,ha,kG,invoke,builtin,h]
 have lF:news.length=ys.length*sz:=by rw[cx.length,yl ys eZ]
 -- a new row
 have grow:∀(base:Option Addr) (cap:Nat) (dP:List Value),a.eval x=.slice base xs.length cap→cap<xs.length+ys.length→(∀(w':World),w'=w.drew→(Builtin.firstCells i.size xs.length (.slice base xs.length cap)).run P w'=.ok dP.toArray w') →
   aF C (xs.flatMap AVal.flat) dP→(∀v∈dP,v.oneCell'=Ek)→(∀x∈xs,x.flat.length=sz) →
   ∃v w',(execOp a.eval o).run P w=.ok (.value v) w'∧jt P C0 w0 C a.tmps d env ⟨.list Ec sz (xs++ys),Ek,jy env x',hp⟩ v w':=by
  intro base cap dP oC hcap hold tw C7 ni
  have bT:Builtin.nextslicecap (xs.length+ys.length) cap*i.bytes≤281474976710656:=growslice_fits hcap (by
   rw[oA]
   exact Q7 (Yo hlen ig) (by decide))
  have aY:=run_append_grow_src w t u o.type el i zv ht hi lE base xs.length cap dP (hold _ rfl) (a.eval y) ys.length news (iY▸hs) hcap (by omega) bT
  rw[←oC]at aY
  refine⟨_,_,eh aY,?_⟩
  have hx:Ext w w.drew:=Ext.drew w
  have oD:=grownCap_ge w (xs.length+ys.length) cap el
  have gv:zv.cells.size=sz:=by
   obtain⟨_,XI,kH,C8,_⟩:=yu (C:=C) hz
   have:=kH w
   simp[zeroValue,typeInfo,hi,lE]at this
   subst this
   have:=C8.length
   simp at this
   omega
  have eg:=Hv (d:=d) (tmps:=a.tmps) (m.ext hx) (e.ext hx) ((dP++news).toArray++Builtin.zeroCells zv.cells (grownCap w (xs.length+ys.length) cap el-(xs.length+ys.length))) el (xs++ys) sz (grownCap w (xs.length+ys.length) cap el) (dP++news)
   (by rw[Eaq];exact aF.append tw cx) (by
    intro j v hj
    rw[Q6 (by simpa using(Gc.1 hj).1)]
    simpa using hj) (by
    intro v hv
    rcases Rx.1 hv with hv|hv
    ·exact C7 v hv
    ·exact cy v hv) (by
    intro x hx
    rcases Rx.1 hx with hx|hx
    ·exact ni x hx
    ·exact eZ x hx) (by rw[Yv];exact oD) (by
    have ho:=tw.length
    rw[yl xs ni]at ho
    simp[Builtin.zeroCells,gv,ho,lF]
    rw[←Yg,←Yg]
    exact Jg _ (by omega)) (jy env x')
  rw[Yv]at eg
  exact eg
 rcases rx.cu with⟨rfl,rfl,hx⟩|⟨rfl,r,q,cap,hx,hle,cA⟩|⟨rfl,rfl,ad,jS,hx⟩
 rotate_right
 ·exact absurd (XH e h1 (by rcases cn with h|h<;>first|cases h|exact h) e1 hx) jS
 ·-- nil
  cases ys with
  |nil=>
   have:news=[]:=by cases cx;rfl
   subst this
   refine⟨.slice Eb 0 0,w,eh ?_,C,ω,az.le_refl C,m,e.strip _,by simpa[ol]using ay.ic 0,fun _=>trivial⟩
   rw[hx]
   exact qjf ht hi _ (iY▸hs)
  |cons y1 ys1=>
   have:=grow Eb 0 [] hx (by simp) (fun w' _=>run_firstCells_none w' _ _ _ _) .nil (by simp) (by simp)
   simpa[ol]using this
 ·-- own
  rw[show ol Ec sz xs ys=.list Ec sz (xs++ys)from rfl]
  have C9:(jy env x').isSome=Ek:=by rcases cn with h|h<;>first|cases h|exact h
  obtain⟨s,gR⟩:=Yt.1 C9
  obtain⟨ew,v0,hl⟩:=C6 gR
  obtain rfl:sz=cD:=by rcases vi with h|⟨_,h⟩<;>first|exact h|cases h
  have rT:v0=.list Ec sz xs:=by
   subst ew
   simp only[qg,hl]at e1
   exact I.inj e1
  subst rT
  obtain⟨cv,tv,Hy,vh⟩:=e s _ hl
  have nh:cv=.slice (I ⟨r,q,Eb⟩) xs.length cap:=by
   have gS:qt x=I (.tmp s):=by rw[h1,ew]
   cases x with
   |tmp t'=>
    simp only[qt]at gS
    cases gS
    have:a.eval (.tmp s)=cv:=by simp[Act.eval,If,tv]
    rw[←this,hx]
   |const u=>simp only[qt]at gS;split at gS<;>cases gS
   |func f=>simp[qt]at gS
   |global g=>simp[qt]at gS
  subst nh
  obtain⟨hω,hB,hβ,_,Hz,⟨cells,te,hg,bT,_⟩,hK⟩:=vh rfl
  simp only at hω hB hβ hg bT hK
  obtain⟨dP,Da,XJ⟩:=bO.vals cA.cells
  have ni:=cA.sized
  by_cases dG:xs.length+ys.length≤cap
  ·-- there is room
   have fP:(xs.length+ys.length)*sz≤cap*sz:=Jg _ dG
   rw[Yg]at fP
   have aY:=N6 (P:=P) (w:=w) (ty:=o.type) ht hi r q xs.length cap (a.eval y) ys.length news (iY▸hs) dG hg (by rw[iY,lF];omega)
   rw[←hx]at aY
   obtain⟨m',e',cg⟩:=XG (d:=d) (tmps:=a.tmps) m e (r:=r) (q:=q+xs.length*sz) (news:=news) hω hB hβ hg (by rw[lF];omega) hK cy
   rw[iY]at aY
   rw[gR]
   refine⟨_,_,eh aY,_,_,cg,m',e',?_,?_⟩
   ·have oE:aO (C.put r (q+xs.length*sz) news) r sz (xs++ys) q:=aO.append (ay.mono cg cA) (aO.ea (az.eu hK cx) eZ)
    have:=ay.list sz (xs++ys) r q cap (by simpa using dG) oE
    simpa using this
   ·intro _
    have hall:∀x∈xs++ys,x.flat.length=sz:=fun x hx=>by
     rcases Rx.1 hx with hx|hx
     ·exact ni x hx
     ·exact eZ x hx
    refine⟨by simp[b4],hB,hβ,rfl,Hz,⟨_,te,setRow_heap w r cells _ te (0,0) hg,?_,eb.sized hall⟩,?_⟩
    ·simp;omega
    ·intro p hp
     rw[Yg]at hp
     simp only[az.put]
     simp only at hp
     rw[if_neg (by rw[lF];omega)]
     exact hK p (by omega)
  ·-- there is none
   have fp:∀v∈dP,v.oneCell'=Ek:=fun v hv=>by
    obtain⟨j,hj⟩:=Ead hv
    exact m.cE _ _ _ (XJ j v hj)
   have N7:dP.length=xs.length*i.size:=by rw[Da.length,yl xs ni,iY]
   have:=grow (I ⟨r,q,Eb⟩) cap dP hx (by omega) (fun w' N5=>run_firstCells_some w' _ _ _ _ _ dP N7 (fun j v hj=>by
    subst N5
    rw[add_lit]
    have:=m.know _ _ _ (XJ j v hj)
    simpa using this)) Da fp ni
   simpa using this
end
structure lG (w w':World)(r:Nat):Prop where
 size:w'.heap.size=w.heap.size
 other:∀k,k≠r→w'.heap[k]?=w.heap[k]?
 fz:∀c t fr,w'.heap[r]?=I (.cells c t fr)→fr=(0,0)
 os:w'.os=w.os
 output:w'.output=w.output
theorem fO.gQ {w w' r cs}(h:fO w w' r cs):lG w w' r:=
 ⟨h.size,h.other,fun c t fr hc=>by obtain⟨t',ht⟩:=h.at_;rw[ht]at hc;cases hc;rfl,h.os,h.output⟩
section
variable {P:Program}{C C0:az}{ω:Nat→Option Loc}{w w' w0:World}{hp:ql}{env:Env}{a:Act}{o:Oper}{tmps:Array Value}{d:Loc}
theorem aB.cW {B b r ℓ x v}(hu:lG w w' r)(hb:C.β b=I r)(ho:aB C ω w B ℓ x v):aB C ω w' B ℓ x v:=by
 unfold aB at *
 split at ho
 ·obtain⟨h1,h2,h3,h4,h8,⟨cells,elem,h5,h6⟩,h7⟩:=ho
  refine⟨h1,h2,h3,h4,h8,⟨cells,elem,?_,h6⟩,h7⟩
  rw[hu.other _ (fun h=>h3 b (by rw[h];exact hb))]
  exact h5
 ·obtain⟨h1,h2,h3,h4,h8,⟨cells,elem,h5,h6⟩,h7⟩:=ho
  refine⟨h1,h2,h3,h4,h8,⟨cells,elem,?_,h6⟩,h7⟩
  rw[hu.other _ (fun h=>h3 b (by rw[h];exact hb))]
  exact h5
 ·trivial
theorem ai.cW {B b r}(hu:lG w w' r)(hb:C.β b=I r)(e:ai C ω w B env tmps):ai C ω w' B env tmps:=
 fun s x hx=>let ⟨v,h1,h2,h3⟩:=e s x hx; ⟨v,h1,h2,fun h=>(h3 h).cW hu hb⟩
theorem aX.cW {B b b' r r' x}(hu:lG w w' r)(hb:C.β b=I r)(aS:r'≠r)(h:aX P C ω w B b' r' x):aX P C ω w' B b' r' x:=by
 have hg:=hu.other r' aS
 cases x with
 |hole=>exact h
 |cells dV=>
  obtain⟨vs,elem,h1,h2,h3⟩:=h
  exact⟨vs,elem,by rw[hg];exact h1,h2,fun j c hc=>let ⟨v,a,q,b,d⟩:=h3 j c hc; ⟨v,a,q,b,fun e=>(d e).cW hu hb⟩⟩
 |map es=>obtain⟨bE,clock,h1,h2⟩:=h;exact⟨bE,clock,by rw[hg];exact h1,h2⟩
 |iter s pos=>show w'.heap[r']?=_;rw[hg];exact h
 |loop l=>obtain⟨lp,h1,h2⟩:=h;exact⟨lp,by rw[hg];exact h1,h2⟩
 |fm t e l=>obtain⟨p,v,h1,h2,h3,h4⟩:=h;exact⟨p,v,by rw[hg];exact h1,h2,h3,h4.cW hu hb⟩
 |dead=>obtain⟨cs,t,h1⟩:=h;exact⟨cs,t,by rw[hg];exact h1⟩
 |vec sz bm xs=>exact dv.imp (fun _ _ _ h=>h) (fun _ h=>h) (fun _ h _=>h) hg (fun q n cap k=>⟨hu.other q (fun hq=>k.2.2.1 b (by rw[hb];exact congrArg I hq.symm)),k.cW hu hb⟩) h
theorem aq.dc {ω'}(m:aq P C ω w0 C0 hp w){b r}(hu:lG w w' r)(hb:C.β b=I r)(x':aJ)(hω:∀b' j y v,b'≠b→aB C ω w w0.heap.size (.cell b' j) y v→aB C ω' w w0.heap.size (.cell b' j) y v)
  (fQ:aX P C ω' w' w0.heap.size b r x'):aq P C ω' w0 C0 (hp.set b x') w':=by
 have hfr:=m.fresh b r hb
 have oF:w.heap[r]?≠I (.deferred (I [])):=by
  obtain⟨x,hx⟩:=H2 (m.lt b r hb).2▸(⟨_,rfl⟩:∃x,I (hp[b]'(m.lt b r hb).2)=I x)
  have h0:=m.box b x r hx hb
  intro h
  cases x with
  |hole=>exact h0
  |cells cs=>obtain⟨vs,elem,h1,_⟩:=h0;rw[h]at h1;cases h1
  |map es=>obtain⟨bE,clock,h1,_⟩:=h0;rw[h]at h1;cases h1
  |iter s pos=>have h1:w.heap[r]?=_:=h0;rw[h]at h1;cases h1
  |loop l=>obtain⟨lp,h1,_⟩:=h0;rw[h]at h1;cases h1
  |fm t e l=>obtain⟨p,v,h1,_⟩:=h0;rw[h]at h1;cases h1
  |dead=>obtain⟨cs,t,h1⟩:=h0;rw[h]at h1;cases h1
  |vec sz bm xs=>obtain⟨_,_,_,_,_,_,cs,t,h1⟩:=h0;rw[h]at h1;cases h1
 refine { base:=m.base,know:=?_,cE:=m.cE,apart:=m.apart,inj:=m.inj,lt:=?_,size:=?_,frame:=?_,eC:=?_,os:=hu.os.trans m.os,output:=hu.output.trans m.output,fresh:=m.fresh,grown:=m.grown,old:=m.old,box:=?_,gK:=fun q hq=>by rw[hu.size];exact m.gK q hq }
 ·intro k p v hk
  have aS:k≠r:=fun h=>by rw[h,m.apart b r p hb]at hk;cases hk
  have hc:=m.know _ _ _ hk
  simp only[World.cell?]at hc ⊢
  rw[hu.other k aS]
  exact hc
 ·intro k p hk
  rw[hu.size,Yp];exact m.lt k p hk
 ·rw[hu.size];exact m.size
 ·intro k hk hn hw
  by_cases gw:k=r
  ·subst gw
   rcases hfr with h|h|h
   ·exact absurd h (hn b)
   ·omega
   ·exact absurd h hw
  ·rw[hu.other k gw];exact m.frame k hk hn hw
 ·intro k hk
  have gw:k≠r:=fun h=>oF (h▸m.eC k hk)
  rw[hu.other k gw];exact m.eC k hk
 ·intro k x p hx hk
  by_cases iZ:k=b
  ·subst iZ
   rw[hb]at hk
   cases hk
   rw[O4 (m.lt k _ hb).2]at hx
   cases hx
   exact fQ
  ·rw[Rb (Eah iZ)]at hx
   have oz:p≠r:=fun h=>iZ (m.inj k b p hk (h▸hb))
   have h0:=m.box k x p hx hk
   exact((h0.cW hu hb oz).mono (ω':=ω') (az.le_refl C) (fun j y v ho=>by
    have:=hω k j y v iZ
    -- the ownerships of other boxes,in the new world
    unfold aB at ho this ⊢
    split at ho
    ·obtain⟨h1,h2,h3,h4,h8,⟨cells,elem,h5,h6⟩,h7⟩:=ho
     rename_i ad len cap
     have kJ:ad.block≠r:=fun h=>h3 b (h▸hb)
     rw[hu.other _ kJ]at h5
     obtain⟨k1,_⟩:=this ⟨h1,h2,h3,h4,h8,⟨cells,elem,h5,h6⟩,h7⟩
     exact⟨k1,h2,h3,h4,h8,⟨cells,elem,by rw[hu.other _ kJ];exact h5,h6⟩,h7⟩
    ·obtain⟨h1,h2,h3,h4,h8,⟨cells,elem,h5,h6⟩,h7⟩:=ho
     rename_i ad
     have kJ:ad.block≠r:=fun h=>h3 b (h▸hb)
     rw[hu.other _ kJ]at h5
     obtain⟨k1,_⟩:=this ⟨h1,h2,h3,h4,h8,⟨cells,elem,h5,h6⟩,h7⟩
     exact⟨k1,h2,h3,h4,h8,⟨cells,elem,by rw[hu.other _ kJ];exact h5,h6⟩,h7⟩
    ·trivial))
theorem aX.read {B b r off n cs us}(h:aX P C ω w B b r (.cells cs))(hl:zp cs off n=I us):
  ∃vs,aF C us vs∧us.length=n∧vs.length=n∧(∀j v,vs[j]?=I v→w.cell? ⟨r,off+j,Eb⟩=I v)∧∀v∈vs,v.oneCell'=Ek:=by
 unfold zp at hl
 cases hb:Eap (off+n) cs.length with
 |false=>simp[hb]at hl
 |true=>
  simp only[hb,cond_true,I.injEq]at hl
  subst hl
  have hle:=Yk hb
  obtain⟨vs,elem,h1,h2,h3⟩:=h
  have key:∀(n off:Nat),off+n≤cs.length→∃ws:List Value,aF C (((cs.drop off).take n).map (·.1)) ws∧ws.length=n∧∀j v,ws[j]?=I v→vs[off+j]?=I v∧v.oneCell'=Ek:=by
   intro n
   induction n with
   |zero=>intro off _;exact⟨[],by simpa using ay.nil,rfl,by simp⟩
   |succ n ih=>
    intro off hle
    obtain⟨ws,i1,i2,i3⟩:=ih (off+1) (by omega)
    have aC:off<cs.length:=by omega
    obtain⟨v,j1,j2,j3,_⟩:=h3 off cs[off] (H2 aC)
    refine⟨v::ws,?_,by simp[i2],?_⟩
    ·rw[List.drop_eq_getElem_cons aC]
     exact .cons _ _ _ _ j3 i1
    ·intro j u hj
     cases j with
     |zero=>simp at hj;subst hj;exact⟨j1,j2⟩
     |succ j=>simp at hj;rw[show off+(j+1)=off+1+j from by omega];exact i3 j u hj
  obtain⟨ws,k1,k2,k3⟩:=key n off hle
  refine⟨ws,k1,by simp;omega,k2,?_,?_⟩
  ·intro j v hj
   have:=(k3 j v hj).1
   simp[World.cell?,h1,this]
  ·intro v hv
   obtain⟨j,hj⟩:=Ead hv
   exact(k3 j v hj).2
theorem Db {t:TypeId}{n r off vs}(hg:zn P t=I Ek)(hn:jc P t=I n)(hl:vs.length=n)(hc:∀j v,vs[j]?=I v→w.cell? ⟨r,off+j,Eb⟩=I v):
  (loadVar t ⟨r,off,Eb⟩).run P w=.ok (.agg ⟨vs⟩) w:=by
 have:=run_loadCells_list (P:=P) w ⟨r,off,Eb⟩ vs (fun j v hj=>by rw[add_lit];exact hc j v hj)
 rw[hl]at this
 simp[loadVar,A5 hg,zk hn,this]
theorem Dc {t:TypeId}{r off v}(hg:zn P t=I Ec)(hc:w.cell? ⟨r,off,Eb⟩=I v):(loadVar t ⟨r,off,Eb⟩).run P w=.ok v w:=by
 simp[loadVar,A5 hg,hc]
theorem N8 (m:aq P C ω w0 C0 hp w)(he:aM C env a.tmps){t:TypeId}{x x' n ag p v}(ho:o.op=.load t x)(hg:zn P t=I ag)(hn:jc P t=I n)(Dd:ag=Ec→n=1)(h1:qt x=I x')(e1:qg env x'=I p)
  (hv:(∃b q cs us,p=.ptr b q∧ji hp b=I cs∧zp cs q n=I us∧((ag=Ek∧v=.agg us)∨(ag=Ec∧us=[v])))∨(p=.ax v∧Bool.xor ag v.isAgg=Ec∧v.flat.length=n)):Val P C a o w v:=by
 rcases hv with⟨b,q,cs,us,rfl,ld,hl,hv⟩|⟨rfl,hx,rS⟩
 ·obtain⟨r,hr,hq⟩:=(qu he h1 e1).cI
  have fR:hp[b]?=I (.cells cs):=by
   unfold ji at ld
   split at ld
   ·rename_i dV h;cases ld;exact h
   ·cases ld
  obtain⟨vs,k1,_,k2,k3,_⟩:=(m.box b _ r fR hr).read hl
  rcases hv with⟨rfl,rfl⟩|⟨rfl,rfl⟩
  ·exact⟨.agg ⟨vs⟩,by simp[execOp,ho,Instr.loadAt,hq,Instr.sureAddr,Db hg hn k2 k3],.agg _ _ k1⟩
  ·cases k1 with
   |cons _ _ u us hu iX=>
    cases iX
    refine⟨u,?_,hu⟩
    have:=Dc (P:=P) hg (by simpa using k3 0 u rfl)
    simp[execOp,ho,Instr.loadAt,hq,Instr.sureAddr,this]
 ·obtain⟨r,q,hq,hc⟩:=(qu he h1 e1).ec
  obtain⟨vs,k1,k2⟩:=bO.vals hc
  have hl:vs.length=n:=by rw[k1.length,rS]
  have k3:∀j u,vs[j]?=I u→w.cell? ⟨r,q+j,Eb⟩=I u:=fun j u hj=>m.know _ _ _ (k2 j u hj)
  cases ag with
  |true=>
   cases v<;>simp[AVal.isAgg]at hx
   exact⟨.agg ⟨vs⟩,by simp[execOp,ho,Instr.loadAt,hq,Instr.sureAddr,Db hg hn hl k3],.agg _ _ k1⟩
  |false=>
   rw[qag (by simpa using hx)]at k1
   cases k1 with
   |cons _ _ u us hu iX=>
    cases iX
    refine⟨u,?_,hu⟩
    have:=Dc (P:=P) hg (by simpa using k3 0 u rfl)
    simp[execOp,ho,Instr.loadAt,hq,Instr.sureAddr,this]
def az.box (C:az)(b r:Nat):az:={ C with β:=fun k=>if k=b then I r else C.β k }
theorem az.jA {b r}(h:C.β b=Eb):C.le (C.box b r):=
 ⟨fun _ _ _ h=>h,fun k p hk=>by
  simp only[az.box]
  rw[if_neg (fun hb=>by rw[hb,h]at hk;cases hk)]
  exact hk,rfl,fun _ h=>h,fun _ h=>h⟩
theorem aB.box {B b r ℓ x v}(hr:w.heap.size≤r∨ω r≠I ℓ)(ho:aB C ω w B ℓ x v):aB (C.box b r) ω w B ℓ x v:=by
 unfold aB at *
 split at ho
 ·rename_i ad len cap
  obtain⟨h1,h2,h3,h4,h8,⟨cells,elem,h5,h6⟩,h7⟩:=ho
  have aC:ad.block<w.heap.size:=(Jp.1 h5).1
  refine⟨h1,h2,fun k hk=>?_,h4,h8,⟨cells,elem,h5,h6⟩,h7⟩
  simp only[az.box]at hk
  split at hk
  ·have gM:r=ad.block:=I.inj hk
   rcases hr with hr|hr
   ·omega
   ·exact hr (gM▸h1)
  ·exact h3 k hk
 ·rename_i ad
  obtain⟨h1,h2,h3,h4,h8,⟨cells,elem,h5,h6⟩,h7⟩:=ho
  have aC:ad.block<w.heap.size:=(Jp.1 h5).1
  refine⟨h1,h2,fun k hk=>?_,h4,h8,⟨cells,elem,h5,h6⟩,h7⟩
  simp only[az.box]at hk
  split at hk
  ·have gM:r=ad.block:=I.inj hk
   rcases hr with hr|hr
   ·omega
   ·exact hr (gM▸h1)
  ·exact h3 k hk
 ·trivial
theorem zt {h0 rk x h'}(h:aG h0 hp rk x=I h'):hp[h0+rk]?=I .hole∧h'=hp.set (h0+rk) x:=by
 unfold aG at h
 split at h
 ·rename_i hh;cases h;exact⟨hh,rfl⟩
 ·cases h
theorem De (m:aq P C ω w0 C0 hp w){b}(h:hp[b]?=I .hole):C.β b=Eb:=by
 cases hb:C.β b with
 |none=>rfl
 |some r=>exact(m.box b .hole r h hb).elim
theorem aq.aG (m:aq P C ω w0 C0 hp w)(e:ai C ω w w0.heap.size env tmps){b}(hh:hp[b]?=I .hole)(obj:Obj)(N9:∀c t fr,obj=.cells c t fr→fr=(0,0))(x:aJ)
  (fQ:∀C' ω' w',C.le C'→w'.heap[w.heap.size]?=I obj→aX P C' ω' w' w0.heap.size b w.heap.size x):
  aq P (C.box b w.heap.size) ω w0 C0 (hp.set b x) (w.alloc obj)∧ai (C.box b w.heap.size) ω (w.alloc obj) w0.heap.size env tmps∧C.le (C.box b w.heap.size):=by
 have hx:Ext w (w.alloc obj):=Ext.alloc w obj N9
 have hβ:=De m hh
 have hle:=az.jA (C:=C) (r:=w.heap.size) hβ
 have m':=m.ext hx
 have aC:b<hp.length:=(Gc.1 hh).1
 refine⟨{ m' with apart:=?_,inj:=?_,lt:=?_,fresh:=?_,grown:=az.le_trans m.grown hle,box:=?_ },?_,hle⟩
 ·intro k r q hk
  simp only[az.box]at hk
  split at hk
  ·cases hk;exact m.iE _ (Hb _) q
  ·exact m.apart k r q hk
 ·intro k k' r hk ei
  simp only[az.box]at hk ei
  split at hk<;>split at ei
  ·rename_i h1 h2;rw[h1,h2]
  ·cases hk;have:=(m.lt k' _ ei).1;omega
  ·cases ei;have:=(m.lt k _ hk).1;omega
  ·exact m.inj k k' r hk ei
 ·intro k r hk
  rw[Yp]
  simp only[az.box]at hk
  split at hk
  ·rename_i h1;cases hk;subst h1;exact⟨by rw[World.size_alloc];omega,aC⟩
  ·have:=m.lt k r hk;exact⟨by rw[World.size_alloc];omega,this.2⟩
 ·intro k r hk
  simp only[az.box]at hk
  split at hk
  ·cases hk;exact .inr (.inl m.size)
  ·exact m.fresh k r hk
 ·intro k y r hy hk
  simp only[az.box]at hk
  split at hk
  ·rename_i h1
   subst h1
   cases hk
   rw[O4 aC]at hy
   cases hy
   exact fQ _ _ _ hle (by rw[rP,if_pos rfl])
  ·rename_i h1
   rw[Rb (Eah h1)]at hy
   exact((m.box k y r hy hk).mono (ω':=ω) hle fun j z v ho=>ho.box (.inl (Hb _))).ext hx
 ·exact fun s y hy=>let ⟨v,h1,h2,h3⟩:=e s y hy; ⟨v,h1,ay.mono hle h2,fun h=>((h3 h).box (.inl (Hb _))).ext hx⟩
theorem aB.Df {B b r ℓ x v}(hr:∀cs t fr,w.heap[r]?≠I (.cells cs t fr))(ho:aB C ω w B ℓ x v):aB (C.box b r) ω w B ℓ x v:=by
 unfold aB at *
 split at ho
 ·rename_i ad len cap
  obtain⟨h1,h2,h3,h4,h8,⟨cells,elem,h5,h6⟩,h7⟩:=ho
  refine⟨h1,h2,fun k hk=>?_,h4,h8,⟨cells,elem,h5,h6⟩,h7⟩
  simp only[az.box]at hk
  split at hk
  ·have gM:r=ad.block:=I.inj hk
   exact absurd (gM▸h5) (hr _ _ _)
  ·exact h3 k hk
 ·rename_i ad
  obtain⟨h1,h2,h3,h4,h8,⟨cells,elem,h5,h6⟩,h7⟩:=ho
  refine⟨h1,h2,fun k hk=>?_,h4,h8,⟨cells,elem,h5,h6⟩,h7⟩
  simp only[az.box]at hk
  split at hk
  ·have gM:r=ad.block:=I.inj hk
   exact absurd (gM▸h5) (hr _ _ _)
  ·exact h3 k hk
 ·trivial
theorem aq.Dg (m:aq P C ω w0 C0 hp w)(e:ai C ω w w0.heap.size env tmps){b q es bE clock}(hh:hp[b]?=I .hole)(hg:w.heap[q]?=I (.map bE clock))(hq:∀k,C.β k≠I q)(hb:w0.heap.size≤q)(hr:bU C es bE.toList):
  aq P (C.box b q) ω w0 C0 (hp.set b (.map es)) w∧ai (C.box b q) ω w w0.heap.size env tmps∧C.le (C.box b q):=by
 have hβ:=De m hh
 have hle:=az.jA (C:=C) (r:=q) hβ
 have aC:b<hp.length:=(Gc.1 hh).1
 have jV:∀cs t fr,w.heap[q]?≠I (.cells cs t fr):=fun cs t fr h=>by rw[hg]at h;cases h
 refine⟨{ m with apart:=?_,inj:=?_,lt:=?_,fresh:=?_,grown:=az.le_trans m.grown hle,box:=?_ },?_,hle⟩
 ·intro k r o hk
  simp only[az.box]at hk
  split at hk
  ·cases hk
   show C.K q o=Eb
   cases hK:C.K q o with
   |none=>rfl
   |some v=>
    have:=m.know q o v hK
    simp[World.cell?,hg]at this
  ·exact m.apart k r o hk
 ·intro k k' r hk ei
  simp only[az.box]at hk ei
  split at hk<;>split at ei
  ·rename_i h1 h2;rw[h1,h2]
  ·cases hk;exact absurd ei (hq k')
  ·cases ei;exact absurd hk (hq k)
  ·exact m.inj k k' r hk ei
 ·intro k r hk
  rw[Yp]
  simp only[az.box]at hk
  split at hk
  ·rename_i h1;cases hk;subst h1;exact⟨(Jp.1 hg).1,aC⟩
  ·exact m.lt k r hk
 ·intro k r hk
  simp only[az.box]at hk
  split at hk
  ·cases hk;exact .inr (.inl hb)
  ·exact m.fresh k r hk
 ·intro k y r hy hk
  simp only[az.box]at hk
  split at hk
  ·rename_i h1
   subst h1
   cases hk
   rw[O4 aC]at hy
   cases hy
   exact⟨bE,clock,hg,hr.mono hle⟩
  ·rename_i h1
   rw[Rb (Eah h1)]at hy
   exact(m.box k y r hy hk).mono (ω':=ω) hle fun j z v ho=>ho.Df jV
 ·exact fun s y hy=>let ⟨v,h1,h2,h3⟩:=e s y hy; ⟨v,h1,ay.mono hle h2,fun h=>(h3 h).Df jV⟩
theorem Oa {xs vs}{t:TypeId}{B b r cells}(hr:aF C xs vs)(hs:∀x∈xs,qk x=Ek)(hv:∀(j:Nat) v,vs[j]?=I v→cells[j]?=I v)(hl:xs.length≤cells.size):
  ∀C' ω' w',C.le C'→w'.heap[r]?=I (.cells cells t (0,0))→aX P C' ω' w' B b r (.cells (cellsOf xs)):=by
 intro C' ω' w' hle hg
 refine⟨cells,t,hg,by simpa[cellsOf]using hl,?_⟩
 intro j c hc
 simp only[cellsOf,St,Ea]at hc
 obtain⟨x,hx,rfl⟩:=hc
 obtain⟨v,h1,h2⟩:=hr.get hx
 exact⟨v,hv j v h1,N3 h2 (hs x (Qp hx)),ay.mono hle h2,by simp⟩
theorem q48 (m:aq P C ω w0 C0 hp w)(e:ai C ω w w0.heap.size env a.tmps){t:TypeId}{z h0 rk h'}(ho:o.op=.alloc t)(hz:zq P t=I z)(hs:∀x∈z,qk x=Ek)(hn:aG h0 hp rk (.cells (cellsOf z))=I h'):
  ∃v w',(execOp a.eval o).run P w=.ok (.value v) w'∧jt P C0 w0 C a.tmps d env ⟨.ptr (h0+rk) 0,Ec,Eb,h'⟩ v w':=by
 obtain⟨hh,rfl⟩:=zt hn
 obtain⟨_,zv,jT,b8,kH⟩:=yu (C:=C) hz
 obtain⟨m',e',hle⟩:=m.aG e hh (.cells zv.cells t) (fun c t fr h=>by cases h;rfl) (.cells (cellsOf z)) (Oa b8 hs (fun j v h=>by simpa using h) (by have:=b8.length;simp at this;omega))
 refine⟨.pointer (I ⟨w.heap.size,0,Eb⟩),_,?_,_,_,hle,m',e',.ptr _ _ _ (by simp[az.box]),by simp⟩
 simp[execOp,ho,Instr.alloc,jT,newVar,newRow]
theorem jd0 (m:aq P C ω w0 C0 hp w)(e:ai C ω w w0.heap.size env a.tmps){t:TypeId}{x x' v h0 rk h'}(ho:o.op=.box t x)(h1:qt x=I x')(e1:qg env x'=I v)(hs:v.flat.all qk=Ek)
  (hn:aG h0 hp rk (.cells (cellsOf v.flat))=I h'):
  ∃v w',(execOp a.eval o).run P w=.ok (.value v) w'∧jt P C0 w0 C a.tmps d env ⟨.ptr (h0+rk) 0,Ec,Eb,h'⟩ v w':=by
 obtain⟨hh,rfl⟩:=zt hn
 have hr:=vb (qu e.bJ h1 e1) hs
 obtain⟨m',e',hle⟩:=m.aG e hh (.cells (a.eval x).cells t) (fun c t fr h=>by cases h;rfl) (.cells (cellsOf v.flat)) (Oa hr (by simpa using hs) (fun j v h=>by simpa using h) (by have:=hr.length;simp at this;omega))
 refine⟨.pointer (I ⟨w.heap.size,0,Eb⟩),_,?_,_,_,hle,m',e',.ptr _ _ _ (by simp[az.box]),by simp⟩
 simp[execOp,ho,Instr.box,newVar,newRow]
theorem jbq (m:aq P C ω w0 C0 hp w)(e:ai C ω w w0.heap.size env a.tmps){t:TypeId}{x x' v}(ho:o.op=.box t x)(h1:qt x=I x')(e1:qg env x'=I v)(hs:v.flat.all qk=Ek):
  ∃u w',(execOp a.eval o).run P w=.ok (.value u) w'∧jt P C0 w0 C a.tmps d env ⟨.ax v,Ec,Eb,hp⟩ u w':=by
 have hr:=vb (qu e.bJ h1 e1) hs
 have hx:Ext w (w.alloc (.cells (a.eval x).cells t)):=Ext.alloc w _ (fun c t fr h=>by cases h;rfl)
 have hn:∀o,0≤o→C.K w.heap.size o=Eb:=fun o _=>m.iE _ (Hb _) o
 have m':=m.newRow (a.eval x).cells t (a.eval x).cells.toList (fun j v h=>by simpa using h) (vf hr (fun y hy=>Eaj.1 hs y hy))
 refine⟨.pointer (I ⟨w.heap.size,0,Eb⟩),_,?_,_,ω,az.fM _ hn,m',(e.put _ (.inl (Hb _)) hn).ext hx,.ax _ _ _ (az.eu hn hr),by simp⟩
 simp[execOp,ho,Instr.box,newVar,newRow]
theorem jey (m:aq P C ω w0 C0 hp w)(e:ai C ω w w0.heap.size env a.tmps){t:TypeId}{e' sz h0 rk h'}(ho:o.op=.alloc t)(hz:zq P t=I [.bC,.list Ek sz []])(hn:aG h0 hp rk (.fm t e' [])=I h'):
  ∃v w',(execOp a.eval o).run P w=.ok (.value v) w'∧jt P C0 w0 C a.tmps d env ⟨.ptr (h0+rk) 0,Ec,Eb,h'⟩ v w':=by
 obtain⟨hh,rfl⟩:=zt hn
 obtain⟨_,zv,jT,b8,kH⟩:=yu (C:=C) hz
 have hzc:zv.cells=#[.pointer Eb,.slice Eb 0 0]:=by
  apply O3
  generalize zv.cells.toList=vs at b8
  cases b8 with
  |cons _ _ v vs h1 h2=>
   cases h2 with
   |cons _ _ u us h3 h4=>
    cases h4
    cases h1
    cases h3
    rfl
 obtain⟨m',e',hle⟩:=m.aG e hh (.cells zv.cells t) (fun c t fr h=>by cases h;rfl) (.fm t e' []) (fun C' ω' w' _ hg=>⟨.pointer Eb,.slice Eb 0 0,by rw[hzc]at hg;exact hg,.inl rfl,.inl ⟨rfl,rfl⟩,trivial⟩)
 refine⟨.pointer (I ⟨w.heap.size,0,Eb⟩),_,?_,_,_,hle,m',e',.ptr _ _ _ (by simp[az.box]),by simp⟩
 simp[execOp,ho,Instr.alloc,jT,newVar,newRow]
theorem q7e (m:aq P C ω w0 C0 hp w)(e:ai C ω w w0.heap.size env a.tmps){t:TypeId}{h0 rk h'}(ho:o.op=.makeMap t Eb)(hn:aG h0 hp rk (.map [])=I h'):
  ∃v w',(execOp a.eval o).run P w=.ok (.value v) w'∧jt P C0 w0 C a.tmps d env ⟨.map (h0+rk),Ec,Eb,h'⟩ v w':=by
 obtain⟨hh,rfl⟩:=zt hn
 obtain⟨m',e',hle⟩:=m.aG e hh (.map #[] 0) (fun c t fr h=>by cases h) (.map []) (fun C' ω' w' _ hg=>⟨#[],0,hg,.nil⟩)
 refine⟨.map (I w.heap.size),_,?_,_,_,hle,m',e',.map _ _ (by simp[az.box]),by simp⟩
 simp[execOp,ho,Instr.makeMap]
theorem q4j (m:aq P C ω w0 C0 hp w)(e:ai C ω w w0.heap.size env a.tmps){t:TypeId}{x x' s h0 rk h'}(ho:o.op=.range t x)(ht:P.underlying t=I .string)(h1:qt x=I x')(e1:qg env x'=I (.str s))(hn:aG h0 hp rk (.iter s 0)=I h'):
  ∃v w',(execOp a.eval o).run P w=.ok (.value v) w'∧jt P C0 w0 C a.tmps d env ⟨.ptr (h0+rk) 0,Ec,Eb,h'⟩ v w':=by
 obtain⟨hh,rfl⟩:=zt hn
 have hs:=(qu e.bJ h1 e1).bL
 obtain⟨m',e',hle⟩:=m.aG e hh (.stringIter ⟨⟨s⟩⟩ 0) (fun c t fr h=>by cases h) (.iter s 0) (fun C' ω' w' _ hg=>hg)
 refine⟨.pointer (I ⟨w.heap.size,0,Eb⟩),_,?_,_,_,hle,m',e',.ptr _ _ _ (by simp[az.box]),by simp⟩
 simp[execOp,ho,Instr.range,run_underlying ht,hs]
end
section
variable {P:Program}{C C0:az}{ω:Nat→Option Loc}{w w' w0:World}{hp:ql}{env:Env}{a:Act}{o:Oper}{tmps:Array Value}{d:Loc}
def qJ (ω:Nat→Option Loc)(x:AVal)(v:Value)(ℓ:Loc):Nat→Option Loc:=
 match x,v with
 | .list ..,.slice (I ad) _ _=>b4 ω ad.block ℓ
 | .ct _,.pointer (I ad)=>b4 ω ad.block ℓ
 |_,_=>ω
theorem k9 {B ℓ0 ℓ ℓ' x z cv u}(h0:aB C ω w B ℓ0 x cv)(aS:ℓ≠ℓ0)(hz:aB C ω w B ℓ z u):aB C (qJ ω x cv ℓ') w B ℓ z u:=by
 unfold qJ
 split
 ·rename_i ad l c
  have hω:ω ad.block=I ℓ0:=h0.1
  exact hz.other (.inl (by rw[hω];intro h;exact aS (I.inj h).symm))
 ·rename_i n ad
  have hω:ω ad.block=I ℓ0:=h0.1
  exact hz.other (.inl (by rw[hω];intro h;exact aS (I.inj h).symm))
 ·exact hz
theorem HA {B ℓ0 ℓ' x cv}(h0:aB C ω w B ℓ0 x cv):aB C (qJ ω x cv ℓ') w B ℓ' x cv:=by
 unfold qJ
 split
 ·exact⟨by simp[b4],h0.2⟩
 ·exact⟨by simp[b4],h0.2⟩
 ·rename_i h1 h2
  unfold aB
  split
  ·exact absurd rfl (h1 _ _ _ _ _ _ rfl)
  ·exact absurd rfl (h2 _ _ rfl)
  ·trivial
theorem kg {b cs}(h:ji hp b=I cs):hp[b]?=I (.cells cs):=by
 unfold ji at h
 split at h
 ·rename_i dV h';cases h;exact h'
 ·cases h
theorem vk {b x h'}(h:jh hp b x=I h'):h'=hp.set b x:=by
 unfold jh at h
 cases hb:Ebf b hp.length with
 |false=>simp[hb]at h
 |true=>simpa[hb]using h.symm
theorem aX.store {ω':Nat→Option Loc}{B b r off:Nat}{cs:List (AVal×Bool)}{us:List AVal}{news:List Value}{fl:List Bool}{vs:Array Value}{t:TypeId}(hfl:fl.length=us.length)(hr:aF C us news)(h1:∀v∈news,v.oneCell'=Ek)
  (hl:off+us.length≤cs.length) (cr:cs.length≤vs.size) (hold:∀j c,cs[j]?=I c→∃v,vs[j]?=I v∧v.oneCell'=Ek∧bp C c.1 v∧(c.2=Ek→aB C ω' w' B (.cell b j) c.1 v))
  (cL:∀j u v,us[j]?=I u→news[j]?=I v→fl[j]?=I Ek→aB C ω' w' B (.cell b (off+j)) u v)
  (hg:w'.heap[r]?=I (.cells (vs.toList.take off++news++vs.toList.drop (off+news.length)).toArray t (0,0))):
  aX P C ω' w' B b r (.cells (cs.take off++us.zip fl++cs.drop (off+us.length))):=by
 have lF:=hr.length
 refine⟨_,t,hg,?_,?_⟩
 ·simp;omega
 ·intro j c hc
  rw[Q9]at hc
  have e1:(Ebd off cs).length=off:=by simp;omega
  have e2:(us.zip fl).length=us.length:=by simp[hfl]
  have f1:(Ebd off vs.toList).length=off:=by simp;omega
  simp only[Ib,Q9]
  by_cases hj:j<off
  ·rw[Ga (by omega),Qo hj]at hc
   obtain⟨v,a1,a2,a3,a4⟩:=hold j c hc
   exact⟨v,by rw[Ga (by omega),Qo hj,Hu];exact a1,a2,a3,a4⟩
  ·rw[Ha (by omega),e1]at hc
   by_cases XK:j<off+us.length
   ·rw[Ga (by omega)]at hc
    have vm:=List.getElem?_zip_eq_some.1 hc
    obtain⟨v,a1,a2⟩:=hr.get vm.1
    refine⟨v,by rw[Ha (by omega),f1,Ga (by omega)];exact a1,h1 v (Qp a1),a2,fun hf=>?_⟩
    have:=cL (j-off) c.1 v vm.1 a1 (by rw[vm.2,hf])
    rw[show off+(j-off)=j from by omega]at this
    exact this
   ·rw[Ha (by omega),e2,Eaf]at hc
    rw[show off+us.length+(j-off-us.length)=j from by omega]at hc
    obtain⟨v,a1,a2,a3,a4⟩:=hold j c hc
    exact⟨v,by rw[Ha (by omega),f1,Ha (by omega),Eaf,show off+news.length+(j-off-news.length)=j from by omega,Hu];exact a1,a2,a3,a4⟩
theorem q54 (us:List AVal):us.zip (E3 us.length Ec)=us.map (·,Ec):=by
 induction us with
 |nil=>rfl
 |cons x us ih=>simp only[List.length_cons,Rc,List.zip_cons_cons,ih,Ebe]
theorem XL (m:aq P C ω w0 C0 hp w)(e:ai C ω w w0.heap.size env tmps){b r off:Nat}{cs:List (AVal×Bool)}{us:List AVal}{news:List Value}(hb:hp[b]?=I (.cells cs))(hr:C.β b=I r)(gg:aF C us news)(h1:∀v∈news,v.oneCell'=Ek)(hl:off+us.length≤cs.length):
  ∃vs t,w.heap[r]?=I (.cells vs t (0,0))∧off+news.length≤vs.size ∧
   aq P C ω w0 C0 (hp.set b (.cells (cs.take off++us.map (·,Ec)++cs.drop (off+us.length)))) (w.setRow r (vs.toList.take off++news++vs.toList.drop (off+news.length)).toArray) ∧
   ai C ω (w.setRow r (vs.toList.take off++news++vs.toList.drop (off+news.length)).toArray) w0.heap.size env tmps:=by
 obtain⟨vs,t,hg,cr,hold⟩:=m.box b _ r hb hr
 have hu:=CZ hg (vs.toList.take off++news++vs.toList.drop (off+news.length)).toArray
 have lF:=gg.length
 refine⟨vs,t,hg,by omega,m.dc hu.gQ hr _ (fun b' j y v _ h=>h) ?_,e.cW hu.gQ hr⟩
 rw[←q54]
 refine aX.store (by simp) gg h1 hl cr (fun j c hc=>?_) (fun j u v _ _ hf=>?_) (setRow_heap w r vs _ t (0,0) hg)
 ·obtain⟨v,a1,a2,a3,a4⟩:=hold j c hc
  exact⟨v,a1,a2,a3,fun h=>(a4 h).cW hu.gQ hr⟩
 ·rw[List.getElem?_replicate]at hf;split at hf<;>cases hf
theorem Ob {t te:TypeId}{n r off v vs}(hn:jc P t=I n)(hl:v.cells.toList.length=n)(hg:w.heap[r]?=I (.cells vs te (0,0)))(bT:off+v.cells.toList.length≤vs.size)(h1:∀u∈v.cells.toList,u.oneCell'=Ek):
  (storeVar t ⟨r,off,Eb⟩ v).run P w=.ok () (w.setRow r (vs.toList.take off++v.cells.toList++vs.toList.drop (off+v.cells.toList.length)).toArray):=by
 have bH:=run_storeCells_at (P:=P) r off te v.cells.toList 0 vs w hg (by simpa using bT) h1
 simp only[Eau]at bH
 have:¬(v.cells.size≠n):=by simp at hl;simpa using hl
 simp only[storeVar,Sem.run_bind,zk hn,Result.andThen_ok,this,if_false,Sem.run_ite,bH]
theorem q40 (m:aq P C ω w0 C0 hp w)(e:ai C ω w w0.heap.size env a.tmps){t:TypeId}{x y x' y' n b q v cs dV h'}(ho:o.op=.store t x y)(hn:jc P t=I n)
  (h1:qt x=I x') (h2:qt y=I y') (e1:qg env x'=I (.ptr b q)) (e2:qg env y'=I v) (ld:ji hp b=I cs) (rS:v.flat.length=n) (bH:z7 cs q v.flat=I dV) (aZ:jh hp b (.cells dV)=I h'):
  ∃w',(execOp a.eval o).run P w=.ok .skip w'∧jt P C0 w0 C a.tmps d env ⟨.undef,Ec,Eb,h'⟩ undef w':=by
 obtain⟨r,hr,hq⟩:=(qu e.bJ h1 e1).cI
 unfold z7 at bH
 cases hb:(Eap (q+v.flat.length) cs.length&&v.flat.all qk)with
 |false=>simp[hb]at bH
 |true=>
  simp only[hb,cond_true,I.injEq]at bH
  simp only[Jn]at hb
  subst bH
  have ry:=vb (qu e.bJ h2 e2) hb.2
  have cy:=vf ry (by simpa using hb.2)
  obtain⟨vs,te,hg,bT,m',e'⟩:=XL m e (kg ld) hr ry cy (Yk hb.1)
  obtain rfl:=vk aZ
  have aY:=Ob (P:=P) hn (by rw[ry.length,rS]) hg bT cy
  exact⟨_,by simp[execOp,ho,Instr.storeAt,hq,Instr.sureAddr,aY],C,ω,az.le_refl C,m',e',.undef,by simp⟩
theorem qwj (m:aq P C ω w0 C0 hp w)(e:ai C ω w w0.heap.size env a.tmps){t:TypeId}{x y:Operand}{x' y':jd}{b q s:Nat}{v:AVal}{cs:List (AVal×Bool)}{h':ql}(ho:o.op=.store t x y)(hn:jc P t=I 1)
  (h1:qt x=I x') (h2:qt y=I y') (e1:qg env x'=I (.ptr b q)) (e2:qg env y'=I v) (ld:ji hp b=I cs) (hv:v.b6=Ek) (aC:q<cs.length) (cn:jy env y'=I s) (aZ:jh hp b (.cells (cs.set q (v,Ek)))=I h'):
  ∃w',(execOp a.eval o).run P w=.ok .skip w'∧jt P C0 w0 C a.tmps d env ⟨.undef,Ec,I s,h'⟩ undef w':=by
 obtain⟨r,hr,hq⟩:=(qu e.bJ h1 e1).cI
 have ry:=qu e.bJ h2 e2
 obtain⟨oG,v0,hl⟩:=C6 cn
 have rT:v0=v:=by subst oG;simp only[qg,hl]at e2;exact I.inj e2
 subst rT
 have iJ:v0.flat=[v0]:=by cases v0<;>simp[AVal.b6]at hv<;>rfl
 have hsc:qk v0=Ek:=by cases v0<;>simp[AVal.b6]at hv<;>rfl
 have rf:=vb ry (by rw[iJ];simpa using hsc)
 rw[iJ]at rf
 have cy:=vf rf (by simpa using hsc)
 have dq:(a.eval y).cells.toList=[a.eval y]:=by
  have:=N3 ry hsc
  cases hh:a.eval y<;>simp[hh,Value.oneCell']at this<;>rfl
 obtain⟨cv,tv,Hy,vh⟩:=e s _ hl
 have nh:a.eval y=cv:=by
  have vn:qt y=I (.tmp s):=by rw[h2,oG]
  cases y with
  |tmp t'=>simp only[qt]at vn;cases vn;simp[Act.eval,If,tv]
  |const u=>simp only[qt]at vn;split at vn<;>cases vn
  |func f=>simp[qt]at vn
  |global g=>simp[qt]at vn
 obtain⟨vs,te,hg,cr,hold⟩:=m.box b _ r (kg ld) hr
 have hu:=CZ hg (vs.toList.take q++[a.eval y]++vs.toList.drop (q+1)).toArray
 have lB:(a.eval y).cells.toList.length=1:=by rw[dq];rfl
 have aY:=Ob (P:=P) (t:=t) (off:=q) hn lB hg (by omega) cy
 rw[lB,dq]at aY
 obtain rfl:=vk aZ
 have tz:=vh rfl
 have mg:∀ℓ z u,ℓ≠.slot s→aB C ω w w0.heap.size ℓ z u→aB C (qJ ω v0 cv (.cell b q)) w w0.heap.size ℓ z u:=fun ℓ z u hℓ hz=>k9 tz hℓ hz
 have cL:aB C (qJ ω v0 cv (.cell b q)) w w0.heap.size (.cell b q) v0 cv:=HA tz
 have hcs:cs.take q++[(v0,Ek)]++cs.drop (q+1)=cs.set q (v0,Ek):=by
  rw[List.set_eq_take_append_cons_drop,if_pos aC];simp
 refine⟨w.setRow r (vs.toList.take q++[a.eval y]++vs.toList.drop (q+1)).toArray,by simp only[execOp,ho,Instr.storeAt,Sem.run_bind,hq,Instr.sureAddr,Sem.run_pure,Result.andThen_ok,aY],C,qJ ω v0 cv (.cell b q),az.le_refl C,?_,?_,.undef,by simp⟩
 ·refine m.dc hu.gQ hr _ (fun b' j z u eO hz=>mg _ z u (by simp) hz) ?_
  rw[←hcs]
  have hz:[(v0,Ek)]=[v0].zip [Ek]:=rfl
  rw[hz]
  refine aX.store (us:=[v0]) (fl:=[Ek]) (news:=[a.eval y]) rfl (by rw[←dq];exact rf) (by rw[←dq];exact cy) (by simp;omega) cr (fun j c hc=>?_) (fun j u v Dh mb _=>?_) (setRow_heap w r vs _ te (0,0) hg)
  ·obtain⟨v,a1,a2,a3,a4⟩:=hold j c hc
   exact⟨v,a1,a2,a3,fun h=>(mg _ _ _ (by simp) (a4 h)).cW hu.gQ hr⟩
  ·cases j with
   |zero=>
    simp at Dh mb
    subst Dh;subst mb
    have h3:=cL.cW hu.gQ hr
    exact nh▸h3
   |succ j=>simp at Dh
 ·intro t' x' ew
  by_cases kK:t'=s
  ·subst kK
   simp only[ze,hl,ja,Eam,cond_true]at ew
   cases ew
   exact⟨cv,tv,Hy,by simp⟩
  ·have gT:ja t' env=I x':=by
    simp only[ze,hl,ja]at ew
    have:Jq s t'=Ec:=by
     cases hb:Jq s t' with
     |false=>rfl
     |true=>exact absurd (En hb).symm kK
    rw[this]at ew
    exact ew
   obtain⟨u,k1,k2,k3⟩:=e t' x' gT
   exact⟨u,k1,k2,fun h=>(mg _ _ _ (by simp[kK]) (k3 h)).cW hu.gQ hr⟩
end
section
variable {P:Program}{C C0:az}{ω:Nat→Option Loc}{w w' w0:World}{hp:ql}{env:Env}{a:Act}{o:Oper}{tmps:Array Value}{d:Loc}
theorem qu2 {s v ow}(hl:ja s env=I (v,ow)){t x}(hx:ja t (ze env (I s))=I x):(t=s∧x=(v,Ec))∨(t≠s∧ja t env=I x):=by
 simp only[ze,hl,ja]at hx
 cases hb:Jq s t with
 |true=>
  simp only[hb,cond_true,I.injEq]at hx
  exact .inl ⟨(En hb).symm,hx.symm⟩
 |false=>
  simp only[hb,cond_false]at hx
  refine .inr ⟨fun h=>?_,hx⟩
  subst h
  simp at hb
theorem q7s (m:aq P C ω w0 C0 hp w)(e:ai C ω w w0.heap.size env a.tmps){s v ow}(ho:o.op=.move (.tmp s)∨o.op=.assign (.tmp s))(hl:ja s env=I (v,ow)):
  ∃u w',(execOp a.eval o).run P w=.ok (.value u) w'∧jt P C0 w0 C a.tmps d env ⟨v,ow,I s,hp⟩ u w':=by
 obtain⟨cv,h1,h2,h3⟩:=e s _ hl
 have lH:a.eval (.tmp s)=cv:=by simp[Act.eval,If,h1]
 have aY:(execOp a.eval o).run P w=.ok (.value cv) w:=by rcases ho with ho|ho<;>simp[execOp,ho,lH]
 refine⟨cv,w,aY,?_⟩
 by_cases hk:ow=Ek
 ·subst hk
  have cn:=h3 rfl
  refine⟨C,qJ ω v cv d,az.le_refl C,?_,?_,h2,fun _=>HA cn⟩
  ·exact { m with box:=fun b x r hx hb=>(m.box b x r hx hb).mono (az.le_refl C) fun j y u hz=>k9 cn (by simp) hz }
  ·intro t x hx
   rcases qu2 hl hx with⟨rfl,rfl⟩|⟨aS,ew⟩
   ·exact⟨cv,h1,h2,by simp⟩
   ·obtain⟨u,k1,k2,k3⟩:=e t x ew
    exact⟨u,k1,k2,fun h=>k9 cn (by simpa using aS) (k3 h)⟩
 ·refine⟨C,ω,az.le_refl C,m,e.strip _,h2,fun h=>absurd h hk⟩
theorem qyu (m:aq P C ω w0 C0 hp w)(e:ai C ω w w0.heap.size env a.tmps){t:TypeId}{x x' b q v ow cs h'}(ho:o.op=.load t x)(cz:zn P t=I Ec)
  (h1:qt x=I x') (e1:qg env x'=I (.ptr b q)) (ld:ji hp b=I cs) (hc:cs[q]?=I (v,ow)) (aZ:jh hp b (.cells (cs.set q (v,Ec)))=I h'):
  ∃u w',(execOp a.eval o).run P w=.ok (.value u) w'∧jt P C0 w0 C a.tmps d env ⟨v,ow,Eb,h'⟩ u w':=by
 obtain⟨r,hr,hq⟩:=(qu e.bJ h1 e1).cI
 obtain⟨vs,te,hg,cr,hold⟩:=m.box b _ r (kg ld) hr
 obtain⟨cv,k1,k2,k3,k4⟩:=hold q _ hc
 obtain rfl:=vk aZ
 have dq:w.cell? ⟨r,q,Eb⟩=I cv:=by
  simp only[World.cell?,hg]
  simpa using k1
 have aY:(execOp a.eval o).run P w=.ok (.value cv) w:=by
  simp[execOp,ho,hq,Instr.loadAt,Instr.sureAddr,Dc cz dq]
 have hu:lG w w r:=⟨rfl,fun _ _=>rfl,fun c t fr h=>by rw[hg]at h;cases h;rfl,rfl,rfl⟩
 have fQ:∀ω':Nat→Option Loc,(∀j c u,j≠q→aB C ω w w0.heap.size (.cell b j) c u→aB C ω' w w0.heap.size (.cell b j) c u)→aX P C ω' w w0.heap.size b r (.cells (cs.set q (v,Ec))):=by
  intro ω' hk
  refine⟨vs,te,hg,by simpa using cr,fun j c hj=>?_⟩
  rw[Eax]at hj
  split at hj
  ·rename_i Oc
   subst Oc
   split at hj
   ·cases hj;exact⟨cv,k1,k2,k3,by simp⟩
   ·cases hj
  ·rename_i Oc
   obtain⟨u,a1,a2,a3,a4⟩:=hold j c hj
   exact⟨u,a1,a2,a3,fun h=>hk _ _ _ (Eah Oc) (a4 h)⟩
 refine⟨cv,w,aY,?_⟩
 by_cases hk:ow=Ek
 ·subst hk
  have cn:=k4 rfl
  refine⟨C,qJ ω v cv d,az.le_refl C,?_,?_,k3,fun _=>HA cn⟩
  ·exact m.dc hu hr _ (fun b' j y u eO hz=>k9 cn (by simp[eO]) hz) (fQ _ fun j c u hj hz=>k9 cn (by simp[hj]) hz)
  ·exact fun t x hx=>let ⟨u,k1,k2,k3⟩:=e t x hx; ⟨u,k1,k2,fun h=>k9 cn (by simp) (k3 h)⟩
 ·refine⟨C,ω,az.le_refl C,m.dc hu hr _ (fun _ _ _ _ _ h=>h) (fQ _ fun _ _ _ _ h=>h),e,k3,fun h=>absurd h hk⟩
end
section
variable {P:Program}{C C0:az}{ω:Nat→Option Loc}{w w' w0:World}{hp:ql}{env:Env}{a:Act}{o:Oper}{tmps:Array Value}{d:Loc}
theorem qse (m:aq P C ω w0 C0 hp w)(e:ai C ω w w0.heap.size env a.tmps){t el:TypeId}{x y:Operand}{x' y':jd}{n sz b h0 rk:Nat}{z h'}
  (ho:o.op=.makeSlice t x y) (ht:P.underlying t=I (.slice el)) (hn:jc P el=I sz) (hb:l6 P el=I b) (hz:zq P el=I z) (Od:0<sz) (gv:z.length=sz)
  (h1:qt x=I x') (h2:qt y=I y') (e1:qg env x'=I (.int .i64 (n:Int))) (e2:qg env y'=I (.int .i64 (n:Int))) (hle:n≤1073741824) (ig:b≤4096)
  (cL:aG h0 hp rk (.cells (cellsOf (E3 n z).flatten))=I h'):
  ∃v w',(execOp a.eval o).run P w=.ok (.value v) w'∧jt P C0 w0 C a.tmps d env ⟨.ms (h0+rk) 0 n,Ec,Eb,h'⟩ v w':=by
 obtain⟨hh,rfl⟩:=zt cL
 obtain⟨ot,zv,jT,b8,kH⟩:=yu (C:=C) hz
 have lC:zv.cells.toList.length=sz:=by rw[b8.length,gv]
 have iG:((O6 (n*sz)).map (fun i=>zv.cells[i % zv.cells.size]!)).toList=(E3 n zv.cells.toList).flatten:=by
  have:=Hw lC Od n
  simpa using this
 have r1:=(qu e.bJ h1 e1).br
 have r2:=(qu e.bJ h2 e2).br
 have fq:aF C (E3 n z).flatten ((O6 (n*sz)).map (fun i=>zv.cells[i % zv.cells.size]!)).toList:=by
  rw[iG];exact b8.replicate n
 obtain⟨i,hi,oA⟩:∃i,P.info? el=I i∧i.bytes=b:=by
  unfold l6 at hb
  cases hi:P.info? el with
  |none=>simp[hi]at hb
  |some i=>exact⟨i,rfl,by simpa[hi]using hb⟩
 have iY:i.size=sz:=by
  unfold jc at hn
  rw[hi]at hn
  simpa using hn
 have oB:IntKind.i64.wrap (n:Int)=n:=by
  rw[←rQ];unfold qh
  have:oi .i64 (n:Int)=Ek:=by simp[oi];exact Q7 hle (by decide)
  rw[this];rfl
 have uV:b*n≤281474976710656:=Q7 (Yo ig hle) (by decide)
 obtain⟨m',e',cg⟩:=m.aG e hh (.cells ((O6 (n*sz)).map (fun i=>zv.cells[i % zv.cells.size]!)) el) (fun c t fr h=>by cases h;rfl) (.cells (cellsOf (E3 n z).flatten))
  (Oa fq (by
   intro x h
   rw[Eak]at h
   obtain⟨l,q1,q2⟩:=h
   obtain⟨_,rfl⟩:=Rv.1 q1
   exact ot x q2) (by intro j v h;rw[Hu]at h;exact h) (by have:=fq.length;simp at this;simp;omega))
 refine⟨.slice (I ⟨w.heap.size,0,Eb⟩) n n,w.alloc (.cells ((O6 (n*sz)).map (fun i=>zv.cells[i % zv.cells.size]!)) el),?_,_,_,cg,m',e',.ms _ _ _ _ _ (by simp[az.box]) (Hb _),by simp⟩
 have c1:¬((b:Int)*(n:Int) > 2^48):=by
  have h1:((b*n:Nat):Int)≤281474976710656:=Int.ofNat_le.2 uV
  rw[Int.natCast_mul]at h1
  have h2:(2:Int)^48=281474976710656:=by decide
  rw[h2];omega
 have c2:¬((n:Int)<0):=by omega
 have hr:O6 0=#[]:=rfl
 simp only[execOp,ho,Instr.makeSlice,Sem.run_bind,run_underlying ht,r1,r2,asInt,asIntOf,Sem.run_pure,Result.andThen_ok,typeInfo,run_program,hi,oA,oB,c2,c1,decide_false,Ebc,Qn,if_false,Int.lt_irrefl,gt_iff_lt,run_askRoom,Int.toNat_natCast,zk hn,newRow]
 by_cases u0:n=0
 ·subst u0
  simp[hr]
 ·have aS:¬(n*sz=0):=by
   intro h
   rcases Ean.1 h with h|h<;>omega
  simp[aS,jT]
theorem jm7 (m:aq P C ω w0 C0 hp w)(e:ai C ω w w0.heap.size env tmps){b r s cells}{t:TypeId}{us news}(hh:hp[b]?=I .hole)(hω:ω r=I (.slot s))(hB:w0.heap.size≤r∨C.W r)(hβ:∀b,C.β b≠I r)
  (hg:w.heap[r]?=I (.cells cells t (0,0))) (hK:∀o,C.K r o=Eb) (bT:news.length≤cells.size) (gg:aF C us news) (cy:∀v∈news,v.oneCell'=Ek):
  aq P (C.box b r) ω w0 C0 (hp.set b (.cells (cellsOf us))) (w.setRow r (cells.toList.take 0++news++cells.toList.drop (0+news.length)).toArray) ∧
  ai (C.box b r) ω (w.setRow r (cells.toList.take 0++news++cells.toList.drop (0+news.length)).toArray) w0.heap.size (ze env (I s)) tmps∧C.le (C.box b r):=by
 have hu:=CZ hg (cells.toList.take 0++news++cells.toList.drop (0+news.length)).toArray
 have kL:=setRow_heap w r cells (cells.toList.take 0++news++cells.toList.drop (0+news.length)).toArray t (0,0) hg
 generalize w.setRow r (cells.toList.take 0++news++cells.toList.drop (0+news.length)).toArray=w' at hu kL
 have Oe:=De m hh
 have hle:=az.jA (C:=C) (r:=r) Oe
 have aC:b<hp.length:=(Gc.1 hh).1
 have Og:r<w.heap.size:=(Jp.1 hg).1
 have cn:∀ℓ x v,ℓ≠.slot s→aB C ω w w0.heap.size ℓ x v→aB (C.box b r) ω w' w0.heap.size ℓ x v:=by
  intro ℓ x v hℓ ho
  have aS:ω r≠I ℓ:=by rw[hω];intro h;exact hℓ (I.inj h).symm
  exact(ho.box (.inr aS)).gQ hu aS
 refine⟨?_,?_,hle⟩
 ·refine { base:=m.base,know:=?_,cE:=m.cE,apart:=?_,inj:=?_,lt:=?_,size:=?_,frame:=?_,eC:=?_,os:=hu.os.trans m.os,output:=hu.output.trans m.output,fresh:=?_,grown:=az.le_trans m.grown hle,old:=m.old,box:=?_,gK:=fun q hq=>by rw[hu.size];exact m.gK q hq }
  ·intro k q v hk
   have gw:k≠r:=fun h=>by
    have ei:C.K k q=I v:=hk
    rw[h,hK q]at ei;cases ei
   have hc:=m.know _ _ _ hk
   simp only[World.cell?]at hc ⊢
   rw[hu.other k gw];exact hc
  ·intro k q p hk
   simp only[az.box]at hk
   split at hk
   ·cases hk;exact hK p
   ·exact m.apart k q p hk
  ·intro k k' q hk ei
   simp only[az.box]at hk ei
   split at hk<;>split at ei
   ·rename_i h1 h2;rw[h1,h2]
   ·cases hk;exact absurd ei (hβ k')
   ·cases ei;exact absurd hk (hβ k)
   ·exact m.inj k k' q hk ei
  ·intro k q hk
   rw[Yp,hu.size]
   simp only[az.box]at hk
   split at hk
   ·rename_i h1;cases hk;subst h1;exact⟨Og,aC⟩
   ·exact m.lt k q hk
  ·rw[hu.size];exact m.size
  ·intro k hk hn hw
   have gw:k≠r:=fun h=>by
    subst h
    rcases hB with h|h
    ·omega
    ·rw[m.grown.w]at h;exact hw h
   rw[hu.other k gw];exact m.frame k hk hn hw
  ·intro k hk
   have gw:k≠r:=fun h=>by
    subst h
    have:=m.eC k hk
    rw[hg]at this;cases this
   rw[hu.other k gw];exact m.eC k hk
  ·intro k q hk
   simp only[az.box]at hk
   split at hk
   ·cases hk
    rcases hB with h|h
    ·exact .inr (.inl h)
    ·rw[m.grown.w]at h;exact .inr (.inr h)
   ·exact m.fresh k q hk
  ·intro k x q hx hk
   simp only[az.box]at hk
   split at hk
   ·rename_i h1
    subst h1
    cases hk
    rw[O4 aC]at hx
    cases hx
    have lF:=gg.length
    refine⟨_,t,kL,by simp[cellsOf];omega,?_⟩
    intro j c hc
    simp only[cellsOf,St,Ea]at hc
    obtain⟨x,hx,rfl⟩:=hc
    obtain⟨v,h1,h2⟩:=gg.get hx
    have hj:j<news.length:=(Gc.1 h1).1
    refine⟨v,?_,cy v (Qp h1),ay.mono hle h2,by simp⟩
    simp only[List.take_zero,Eae,Ib]
    rw[Ga hj];exact h1
   ·rename_i h1
    rw[Rb (Eah h1)]at hx
    have aS:q≠r:=fun h=>hβ k (h▸hk)
    have jU:aX P C ω w' w0.heap.size k q x:=(m.box k x q hx hk).gQ hu aS (fun j=>by rw[hω];simp)
    exact jU.mono hle fun j y v ho=>ho.box (.inr (by rw[hω];simp))
 ·intro t' x hx
  by_cases kK:t'=s
  ·subst kK
   simp only[ze]at hx
   cases hl:ja t' env with
   |none=>rw[hl]at hx;simp only[hl]at hx;cases hx
   |some y=>
    rw[hl]at hx
    simp only[ja,Eam,cond_true]at hx
    cases hx
    obtain⟨v,h2,h3,_⟩:=e t' y hl
    exact⟨v,h2,ay.mono hle h3,by simp⟩
  ·have ew:ja t' env=I x:=by
    simp only[ze]at hx
    cases hl:ja s env with
    |none=>rw[hl]at hx;exact hx
    |some y=>
     rw[hl]at hx
     simp only[ja]at hx
     have:Jq s t'=Ec:=by
      cases hb:Jq s t' with
      |false=>rfl
      |true=>exact absurd (En hb).symm kK
     rw[this]at hx
     exact hx
   obtain⟨v,h2,h3,h4⟩:=e t' x ew
   exact⟨v,h2,ay.mono hle h3,fun h=>cn _ _ _ (by simp[kK]) (h4 h)⟩
theorem qzp {xs vs}{t:TypeId}{B b r cells}(hr:aF C xs vs)(cy:∀v∈vs,v.oneCell'=Ek)(hv:∀(j:Nat) v,vs[j]?=I v→cells[j]?=I v)(hl:xs.length≤cells.size):
  ∀C' ω' w',C.le C'→w'.heap[r]?=I (.cells cells t (0,0))→aX P C' ω' w' B b r (.cells (cellsOf xs)):=by
 intro C' ω' w' hle hg
 refine⟨cells,t,hg,by simpa[cellsOf]using hl,?_⟩
 intro j c hc
 simp only[cellsOf,St,Ea]at hc
 obtain⟨x,hx,rfl⟩:=hc
 obtain⟨v,h1,h2⟩:=hr.get hx
 exact⟨v,hv j v h1,cy v (Qp h1),ay.mono hle h2,by simp⟩
theorem quy (m:aq P C ω w0 C0 hp w)(e:ai C ω w w0.heap.size env a.tmps){c}{t u el:TypeId}{ut:TypeDesc}{x y x' y' sz b h0 rk n cD ys vy h'}
  (ho:o.op=.call c) (dk:c.callee=.builtin .append) (dy:c.args.toList=[x,y]) (dX:c.argTypes.toList=[t,u]) (ht:P.underlying t=I (.slice el)) (hu:P.underlying u=I ut) (ij:uP ut=Ek)
  (hn:jc P el=I sz) (hb:l6 P el=I b) (h1:qt x=I x') (h2:qt y=I y') (e1:qg env x'=I (.list n cD [])) (e2:qg env y'=I vy) (cw:j9 sz vy=I ys)
  (cn:(jy env x').isSome=Ek) (Oh:n=Ec) (hlen:ys.length≤1073741824) (ig:b≤4096) (hzero:∃z,zq P el=I z∧z.length=sz) (vi:sz=cD)
  (cL:aG h0 hp rk (.cells (cellsOf (ys.flatMap AVal.flat)))=I h'):
  ∃v w',(execOp a.eval o).run P w=.ok (.value v) w'∧jt P C0 w0 C a.tmps d env ⟨.ms (h0+rk) 0 ys.length,Ec,jy env x',h'⟩ v w':=by
 obtain⟨hh,rfl⟩:=zt cL
 subst Oh
 subst vi
 have ha:c.args=#[x,y]:=by apply O3;simpa using dy
 have kG:c.argTypes=#[t,u]:=by apply O3;simpa using dX
 obtain⟨i,hi,oA⟩:∃i,P.info? el=I i∧i.bytes=b:=by
  unfold l6 at hb
  cases hi:P.info? el with
  |none=>simp[hi]at hb
  |some i=>exact⟨i,rfl,by simpa[hi]using hb⟩
 have iY:i.size=sz:=by
  unfold jc at hn;rw[hi]at hn;simpa using hn
 obtain⟨z,hz,vj⟩:=hzero
 obtain⟨zv,lE⟩:∃zv,i.zero=I zv:=by
  unfold zq at hz;rw[hi]at hz
  cases hq:i.zero with
  |none=>simp[hq]at hz
  |some v=>exact⟨v,rfl⟩
 have rx:=qu e.bJ h1 e1
 have ry:=qu e.bJ h2 e2
 obtain⟨news,hs,cx,eZ,cy⟩:=Hx m hu ij cw ry
 have eh:∀ {z:Value} {w':World},(Builtin.append_ #[t,u] o.type #[a.eval x,a.eval y]).run P w=.ok z w'→(execOp a.eval o).run P w=.ok (.value z) w':=by
  intro z w' h
  simp[execOp,ho,resolve,dk,ha,kG,invoke,builtin,h]
 have lF:news.length=ys.length*sz:=by rw[cx.length,yl ys eZ]
 rcases rx.cu with⟨hh1,_,_⟩|⟨_,r,q,cap,hx,hle,cA⟩|⟨_,_,ad,jS,hx⟩
 rotate_right
 ·exact absurd (XH e h1 cn e1 hx) jS
 ·cases hh1
 ·obtain⟨s,gR⟩:=Yt.1 cn
  obtain⟨ew,v0,hl⟩:=C6 gR
  have rT:v0=.list Ec sz []:=by
   subst ew
   simp only[qg,hl]at e1
   exact I.inj e1
  subst rT
  obtain⟨cv,tv,Hy,vh⟩:=e s _ hl
  have nh:cv=.slice (I ⟨r,q,Eb⟩) 0 cap:=by
   have gS:qt x=I (.tmp s):=by rw[h1,ew]
   cases x with
   |tmp t'=>
    simp only[qt]at gS
    cases gS
    have:a.eval (.tmp s)=cv:=by simp[Act.eval,If,tv]
    rw[←this,hx];rfl
   |const u=>simp only[qt]at gS;split at gS<;>cases gS
   |func f=>simp[qt]at gS
   |global g=>simp[qt]at gS
  subst nh
  obtain⟨hω,hB,hβ,_,Hz,⟨cells,te,hg,bT⟩,hK⟩:=vh rfl
  simp only at hω hB hβ hg bT hK Hz
  subst Hz
  simp only[List.length_nil]at hx
  by_cases dG:0+ys.length≤cap
  ·have fP:(0+ys.length)*sz≤cap*sz:=Jg _ dG
   have aY:=N6 (P:=P) (w:=w) (ty:=o.type) ht hi r 0 0 cap (a.eval y) ys.length news (iY▸hs) dG hg (by rw[lF];simp at fP bT ⊢;omega)
   rw[←hx]at aY
   have e0:0+0*i.size=0:=by simp
   rw[e0]at aY
   obtain⟨m',e',cg⟩:=jm7 (tmps:=a.tmps) m e hh hω hB hβ hg (fun o=>hK o (by simp)) (by rw[lF];simp at fP bT ⊢;omega) cx cy
   rw[gR]
   refine⟨_,_,eh aY,_,_,cg,m',e',?_,by simp⟩
   have:=ay.ms (C:=C.box (h0+rk) r) (h0+rk) 0 ys.length r cap (by simp[az.box]) (by omega)
   simpa using this
  ·have Di:Builtin.nextslicecap (0+ys.length) cap*i.bytes≤281474976710656:=growslice_fits (by omega) (by
    rw[oA]
    exact Q7 (Yo (by omega) ig) (by decide:2^30*4096≤_))
   have aY:=run_append_grow_src w t u o.type el i zv ht hi lE (I ⟨r,0,Eb⟩) 0 cap [] (run_firstCells_some _ _ _ _ _ _ [] (by simp) (by simp)) (a.eval y) ys.length news (iY▸hs) (by omega) (by omega) Di
   rw[←hx]at aY
   have oD:=grownCap_ge w (0+ys.length) cap el
   have gT:Ext w w.drew:=Ext.drew w
   obtain⟨m',e',cg⟩:=(m.ext gT).aG (e.ext gT) hh (.cells (([]++news).toArray++Builtin.zeroCells zv.cells (grownCap w (0+ys.length) cap el-(0+ys.length))) el) (fun c t fr h=>by cases h;rfl) (.cells (cellsOf (ys.flatMap AVal.flat)))
    (qzp cx cy (by
     intro j v hj
     rw[Q6 (by simpa using(Gc.1 hj).1)]
     simpa using hj) (by have h5:=cx.length;rw[Eai];simp only[Eae,Eab];omega))
   refine⟨_,_,eh aY,_,_,cg,m',e'.strip _,?_,by simp⟩
   have:=ay.ms (C:=C.box (h0+rk) w.drew.heap.size) (h0+rk) 0 ys.length w.drew.heap.size (grownCap w (0+ys.length) cap el) (by simp[az.box]) (by omega)
   simpa using this
end
section
variable {P:Program}{C C0:az}{ω:Nat→Option Loc}{w w' w0:World}{hp:ql}{env:Env}{a:Act}{o:Oper}{tmps:Array Value}{d:Loc}
theorem HC {b bm len v}(h:bp C (.aA b bm len) v):∃r0 r cap,C.β b=I r0∧C.T (r0,bm,r,cap)∧len≤cap∧v=.slice (I ⟨r,0,Eb⟩) len cap:=by
 cases h with
 |aA _ _ _ r0 r cap hb ht hl=>exact⟨r0,r,cap,hb,ht,hl,rfl⟩
theorem XM {b bm off v}(h:bp C (.dK b bm off) v):∃r0 r cap,C.β b=I r0∧C.T (r0,bm,r,cap)∧v=.pointer (I ⟨r,off,Eb⟩):=by
 cases h with
 |dK _ _ _ r0 r cap hb ht=>exact⟨r0,r,cap,hb,ht,rfl⟩
theorem qtk {t:TypeId}{x x' i fs f n b bm q}(he:aM C env a.tmps)(ho:o.op=.fieldAddr t x i)(ht:P.underlying t=I (.struct fs))(hf:fs[i]?=I f)
  (hn:jc P f.type=I n) (u0:0<n) (h1:qt x=I x') (e1:qg env x'=I (.dK b bm q)):Val P C a o w (.dK b bm (q+f.offset)):=by
 obtain⟨r0,r,cap,hb,hT,hq⟩:=XM (qu he h1 e1)
 refine⟨.pointer (I ⟨r,q+f.offset,Eb⟩),?_,.dK _ _ _ r0 r cap hb hT⟩
 simp[execOp,ho,Instr.fieldAt,run_underlying ht,hf,hq,Instr.sureAddr,fieldPlace,zk hn,Nat.pos_iff_ne_zero.1 u0,add_lit]
theorem qsy {t e:TypeId}{x i x' i' sz iv b bm len j}(he:aM C env a.tmps)(ho:o.op=.indexAddr t x i)(ht:P.underlying t=I (.slice e))
  (hn:jc P e=I sz) (h1:qt x=I x') (h2:qt i=I i') (e1:qg env x'=I (.aA b bm len)) (e2:qg env i'=I iv) (hj:idx len iv=I j):Val P C a o w (.dK b bm (j*sz)):=by
 obtain⟨r0,r,cap,hb,hT,_,hq⟩:=HC (qu he h1 e1)
 obtain⟨k,rfl,aC⟩:=CW hj
 have hi:=(qu he h2 e2).br
 refine⟨.pointer (I ⟨r,j*sz,Eb⟩),?_,.dK _ _ _ r0 r cap hb hT⟩
 simp[execOp,ho,Instr.indexAt,run_underlying ht,hq,hi,asIntOf,zk hn,aC,add_lit]
theorem q2r {t e:TypeId}{x lo hi x' kF fN sz j b bm len}(he:aM C env a.tmps)(ho:o.op=.slice t x lo hi Eb)(ht:P.underlying t=I (.slice e))
  (hn:jc P e=I sz) (h1:qt x=I x') (h2:ly lo=I kF) (h3:ly hi=I fN) (e1:qg env x'=I (.aA b bm len)) (b2:eL env len len fN=I j) (b1:eL env 0 j kF=I 0):Val P C a o w (.aA b bm j):=by
 obtain⟨r0,r,cap,hb,hT,hl,hq⟩:=HC (qu he h1 e1)
 obtain⟨gM,k1,k2⟩:=Hs (P:=P) (isS:=true) he h2 h3 b2 b1 hl w
 refine⟨.slice (I ⟨r,0,Eb⟩) j cap,?_,.aA _ _ _ r0 r cap hb hT (by omega)⟩
 simp[execOp,ho,Instr.sliceAt,Instr.slice,run_underlying ht,hq,gM,zk hn,add_lit]
theorem q7u {c x}{t e:TypeId}{x' b bm n}(he:aM C env a.tmps)(ho:o.op=.call c)(dk:c.callee=.builtin .len)(dy:c.args.toList=[x])(dX:c.argTypes.toList=[t])
  (h1:qt x=I x') (e1:qg env x'=I (.aA b bm n)) (ht:P.underlying t=I (.slice e)):Val P C a o w (.int .i64 n):=by
 have ha:c.args=#[x]:=by apply O3;simpa using dy
 have kG:c.argTypes=#[t]:=by apply O3;simpa using dX
 refine⟨.int .i64 n,?_,.int _ _⟩
 simp only[execOp,ho,resolve,dk,ha,kG,Sem.run_bind,Sem.run_pure,Result.andThen_ok,invoke,builtin,Builtin.len_]
 obtain⟨r0,r,cap,_,_,_,hq⟩:=HC (qu he h1 e1)
 simp[run_underlying ht,hq,goInt]
theorem jat (m:aq P C ω w0 C0 hp w){b bm q cap r0 sz xs}(hb:C.β b=I r0)(hT:C.T (r0,bm,q,cap))(fR:hp[b]?=I (.vec sz bm xs)):
  ∃vs,aF C (xs.flatMap AVal.flat) vs∧(∀(j:Nat) v,vs[j]?=I v→w.cell? ⟨q,j,Eb⟩=I v∧v.oneCell'=Ek)∧dE C.K w q sz xs cap:=by
 obtain⟨q',jB,k1,k2,k3,k4,_⟩:=m.box b _ r0 fR hb
 have heq:=(k2 _ hT rfl).2 rfl
 simp only[Prod.mk.injEq]at heq
 obtain⟨rfl,rfl⟩:=heq
 obtain⟨cells,t,vs,g1,g2,g3,g4,g5,g6,g7⟩:=id k3
 refine⟨vs,ay.imp (C:=.bw C.K) (C':=C) ⟨fun _ _ _ h=>h,fun b r h=>by cases h⟩ g5 (fun _ h=>h.elim),fun j v hj=>⟨?_,g7 v (Qp hj)⟩,k3⟩
 unfold World.cell?
 rw[g1]
 simp only[Rw,Qn,if_false]
 exact g6 j v hj
theorem XO (m:aq P C ω w0 C0 hp w)(he:aM C env a.tmps){t:TypeId}{x x' n ag b bm q sz xs v}(ho:o.op=.load t x)(hg:zn P t=I ag)(hn:jc P t=I n)(h1:qt x=I x')(e1:qg env x'=I (.dK b bm q))
  (fR:hp[b]?=I (.vec sz bm xs)) (hl:q+n≤(xs.flatMap AVal.flat).length) (hv:(ag=Ek∧v=.agg (((xs.flatMap AVal.flat).drop q).take n))∨(ag=Ec∧((xs.flatMap AVal.flat).drop q).take n=[v])):Val P C a o w v:=by
 obtain⟨r0,r,cap,hb,hT,hq⟩:=XM (qu he h1 e1)
 obtain⟨vs,k1,k2,_⟩:=jat m hb hT fR
 have k3:aF C (((xs.flatMap AVal.flat).drop q).take n) ((vs.drop q).take n):=(k1.drop q).take n
 have k4:∀j u,((vs.drop q).take n)[j]?=I u→w.cell? ⟨r,q+j,Eb⟩=I u:=by
  intro j u hj
  rw[Ear]at hj
  split at hj
  ·rw[Eaf]at hj;exact(k2 _ _ hj).1
  ·cases hj
 have k5:((vs.drop q).take n).length=n:=by rw[k3.length,Eay,List.length_drop];omega
 rcases hv with⟨rfl,rfl⟩|⟨rfl,hv⟩
 ·exact⟨.agg ⟨(vs.drop q).take n⟩,by simp[execOp,ho,Instr.loadAt,hq,Instr.sureAddr,Db hg hn k5 k4],.agg _ _ k3⟩
 ·rw[hv]at k3
  generalize hgen:(vs.drop q).take n=us at k3 k4 k5
  cases k3 with
  |cons _ _ u us hu iX=>
   cases iX
   refine⟨u,?_,hu⟩
   have:=Dc (P:=P) hg (by simpa using k4 0 u rfl)
   simp[execOp,ho,Instr.loadAt,hq,Instr.sureAddr,this]
def az.tok (C:az)(x:Nat×Nat×Nat×Nat):az:={ C with T:=fun q=>C.T q∨q=x }
theorem az.fS {x}:C.le (C.tok x):=⟨fun _ _ _ h=>h,fun _ _ h=>h,rfl,fun _ h=>h,fun _ h=>.inl h⟩
theorem aB.tok {x B ℓ y v}(h:aB C ω w B ℓ y v):aB (C.tok x) ω w B ℓ y v:=by
 unfold aB at *
 exact h
theorem ai.tok {x B}(e:ai C ω w B env tmps):ai (C.tok x) ω w B env tmps:=
 fun s y hy=>let ⟨v,h1,h2,h3⟩:=e s y hy; ⟨v,h1,ay.mono az.fS h2,fun h=>(h3 h).tok⟩
theorem aq.oH (m:aq P C ω w0 C0 hp w){b r sz bm q cap xs}(hβ:C.β b=I r)(hT:∀x,C.T x→x.1=r→x.2.1<bm)(hv:dE C.K w q sz xs cap)(ho:q=r∨tq C ω w w0.heap.size b q xs.length cap)(hr:∃cs t,w.heap[r]?=I (.cells cs t (0,0))):
  aq P (C.tok (r,bm,q,cap)) ω w0 C0 (hp.set b (.vec sz bm xs)) w:=by
 have aC:=m.lt b r hβ
 refine { m with lt:=fun k p hk=>by rw[Yp];exact m.lt k p hk,grown:=az.le_trans m.grown az.fS,box:=?_,gK:=?_ }
 ·intro k y p hy hk
  by_cases iZ:k=b
  ·subst iZ
   rw[O4 aC.2]at hy
   cases hy
   obtain rfl:r=p:=by have:C.β k=I p:=hk;rw[hβ]at this;exact I.inj this
   refine⟨q,cap,.inr rfl,fun x hx hxr=>?_,hv,ho.imp id fun h=>h.tok,hr⟩
   rcases hx with hx|rfl
   ·have:=hT x hx hxr
    exact⟨by omega,fun h=>by omega⟩
   ·exact⟨Hb _,fun _=>rfl⟩
  ·rw[Rb (Eah iZ)]at hy
   have oz:p≠r:=fun h=>iZ (m.inj k b p hk (h▸hβ))
   refine(m.box k y p hy hk).mono az.fS (fun j z u h=>h.tok) (fun x hx hxp=>?_)
   rcases hx with hx|rfl
   ·exact hx
   ·exact absurd hxp.symm oz
 ·intro x hx
  rcases hx with hx|rfl
  ·exact m.gK x hx
  ·exact aC.1
theorem aq.oI (m:aq P C ω w0 C0 hp w){b r}(hβ:C.β b=I r)(hr:∃cs t,w.heap[r]?=I (.cells cs t (0,0))):aq P C ω w0 C0 (hp.set b .dead) w:=
 m.dc (ω':=ω) (w':=w) (r:=r) (b:=b) ⟨rfl,fun _ _=>rfl,fun c t fr h=>by obtain⟨cs,t',h'⟩:=hr;rw[h']at h;cases h;rfl,rfl,rfl⟩ hβ .dead (fun _ _ _ _ _ h=>h) hr
theorem aq.vo (m:aq P C ω w0 C0 hp w){b q n cap cs}(hd:hp[b]?=I .dead)(ho:tq C ω w w0.heap.size b q n cap)(hu:fO w w' q cs):aq P C ω w0 C0 hp w':=by
 obtain⟨h1,h2,h3,_,_,⟨cells,elem,h5,_⟩,h7⟩:=ho
 simp only at h1 h2 h3 h5 h7
 have hK:∀o,C.K q o=Eb:=fun o=>h7 o (by simp)
 refine { base:=m.base,know:=?_,cE:=m.cE,apart:=m.apart,inj:=m.inj,lt:=?_,size:=?_,frame:=?_,eC:=?_,os:=hu.os.trans m.os,output:=hu.output.trans m.output,fresh:=m.fresh,grown:=m.grown,old:=m.old,box:=?_,gK:=fun x hx=>by rw[hu.size];exact m.gK x hx }
 ·intro k p v hk
  have aS:k≠q:=fun h=>by rw[h,hK p]at hk;cases hk
  have hc:=m.know _ _ _ hk
  simp only[World.cell?]at hc ⊢
  rw[hu.other k aS];exact hc
 ·intro k p hk;rw[hu.size];exact m.lt k p hk
 ·rw[hu.size];exact m.size
 ·intro k hk hn hw
  have aS:k≠q:=fun h=>by
   subst h
   rcases h2 with h|h
   ·omega
   ·rw[m.grown.w]at h;exact hw h
  rw[hu.other k aS];exact m.frame k hk hn hw
 ·intro k hk
  have aS:k≠q:=fun h=>by
   subst h
   have:=m.eC k hk
   rw[h5]at this;cases this
  rw[hu.other k aS];exact m.eC k hk
 ·intro k x p hx hk
  have aS:p≠q:=fun h=>h3 k (h▸hk)
  by_cases iZ:k=b
  ·subst iZ
   rw[hd]at hx
   cases hx
   obtain⟨dV,t',hg⟩:=m.box k .dead p hd hk
   exact⟨dV,t',by rw[hu.other p aS];exact hg⟩
  ·exact(m.box k x p hx hk).gQ hu aS (fun j=>by rw[h1];intro h;injection h with h;injection h with h _;exact iZ h.symm)
theorem XP {sz}:∀ {xs:List AVal} (n:Nat),(∀x∈xs,x.flat.length=sz)→(xs.take n).flatMap AVal.flat=(xs.flatMap AVal.flat).take (n*sz)
 | [],n,_=>by simp
 |x::xs,0,_=>by simp
 |x::xs,n+1,h=>by
  have hx:=h x (Eas ..)
  have h1:x.flat.take ((n+1)*sz)=x.flat:=List.take_of_length_le (by rw[hx,Eat];omega)
  have h2:(n+1)*sz-sz=n*sz:=by rw[Eat];omega
  rw[List.take_succ_cons,Yd,Yd,XP n (fun y hy=>h y (Eao _ hy)),List.take_append,hx,h1,h2]
theorem dE.grown {K q q' sz len cap jB xs ys news dP cZ}{t':TypeId}(h:dE K w q sz xs cap)(hl:len≤xs.length)(cx:aF (.bw K) (ys.flatMap AVal.flat) news)(eZ:∀y∈ys,y.flat.length=sz)(cy:∀v∈news,v.oneCell'=Ek)
  (hold:∀vs:List Value,aF (.bw K) (xs.flatMap AVal.flat) vs→(∀(j:Nat) v,vs[j]?=I v→w.cell? ⟨q,j,Eb⟩=I v)→dP=vs.take (len*sz)) (hcap:len+ys.length≤jB) (bT:jB*sz≤cZ.size)
  (hg:w'.heap[q']?=I (.cells cZ t' (0,0))) (hc:∀(j:Nat) v,(dP++news)[j]?=I v→cZ[j]?=I v):dE K w' q' sz (xs.take len++ys) jB:=by
 obtain⟨cells,t,vs,g1,g2,g3,g4,g5,g6,g7⟩:=h
 have ho:dP=vs.take (len*sz):=hold vs g5 (fun j v hj=>by
  unfold World.cell?
  rw[g1]
  simp only[Rw,Qn,if_false]
  exact g6 j v hj)
 refine⟨cZ,t',dP++news,hg,by rw[Yv,Eay];omega,bT,?_,?_,hc,?_⟩
 ·intro x hx
  rcases Rx.1 hx with hx|hx
  ·exact g4 x (Eac hx)
  ·exact eZ x hx
 ·rw[Eaq,XP len g4,ho]
  exact(g5.take _).append cx
 ·intro v hv
  rcases Rx.1 hv with hv|hv
  ·rw[ho]at hv;exact g7 v (Eac hv)
  ·exact cy v hv
theorem aF.pure {xs vs}(h:aF C xs vs)(hb:qr 0 xs=Ek):aF (.bw C.K) xs vs:=
 ay.shift (C:=C) (C':=.bw C.K) 0 (fun _ _ _ h=>h) (fun b r aC=>by omega) h hb
theorem Oi {n}:∀ {xs:List AVal},qr n xs=Ek→qr n (xs.flatMap AVal.flat)=Ek
 | [],_=>rfl
 |x::xs,h=>by
  simp only[qr,Jn]at h
  have key:∀(ys zs:List AVal),qr n ys=Ek→qr n zs=Ek→qr n (ys++zs)=Ek:=by
   intro ys zs
   induction ys with
   |nil=>intro _ h;exact h
   |cons y ys ih=>intro h1 h2;simp only[qr,Jn,List.cons_append]at h1 ⊢;exact⟨h1.1,ih h1.2 h2⟩
  rw[Yd]
  exact key _ _ (by rw[Hl];exact h.1) (Oi h.2)
theorem aF.fun {xs}:∀ {vs ws:List Value},aF C xs vs→aF C xs ws→vs.length=ws.length:=fun h k=>by rw[h.length,k.length]
theorem q97 (m:aq P C ω w0 C0 hp w)(e:ai C ω w w0.heap.size env a.tmps){c}{t u el:TypeId}{ut:TypeDesc}{x y x' y' sz b bx bm len xs ys vy h'}
  (ho:o.op=.call c) (dk:c.callee=.builtin .append) (dy:c.args.toList=[x,y]) (dX:c.argTypes.toList=[t,u]) (ht:P.underlying t=I (.slice el)) (hu:P.underlying u=I ut) (ij:uP ut=Ek)
  (hn:jc P el=I sz) (hb:l6 P el=I b) (h1:qt x=I x') (h2:qt y=I y') (e1:qg env x'=I (.aA bx bm len)) (e2:qg env y'=I vy) (cw:j9 sz vy=I ys)
  (fR:hp[bx]?=I (.vec sz bm xs)) (hle:len≤xs.length) (hlen:len+ys.length≤1073741824) (ig:b≤4096) (Oj:qr 0 ys=Ek) (hzero:∃z,zq P el=I z∧z.length=sz)
  (aZ:jh hp bx (.vec sz (bm+1) (xs.take len++ys))=I h'):
  ∃v w',(execOp a.eval o).run P w=.ok (.value v) w'∧jt P C0 w0 C a.tmps d env ⟨.aA bx (bm+1) (len+ys.length),Ec,Eb,h'⟩ v w':=by
 have ft:h'=hp.set bx (.vec sz (bm+1) (xs.take len++ys)):=by
  unfold jh at aZ
  cases rU:Ebf bx hp.length with
  |false=>simp[rU]at aZ
  |true=>simpa[rU]using aZ.symm
 subst ft
 have ha:c.args=#[x,y]:=by apply O3;simpa using dy
 have kG:c.argTypes=#[t,u]:=by apply O3;simpa using dX
 obtain⟨i,hi,oA⟩:∃i,P.info? el=I i∧i.bytes=b:=by
  unfold l6 at hb
  cases hi:P.info? el with
  |none=>simp[hi]at hb
  |some i=>exact⟨i,rfl,by simpa[hi]using hb⟩
 have iY:i.size=sz:=by
  unfold jc at hn;rw[hi]at hn;simpa using hn
 obtain⟨z,hz,vj⟩:=hzero
 obtain⟨zv,lE⟩:∃zv,i.zero=I zv:=by
  unfold zq at hz;rw[hi]at hz
  cases hq:i.zero with
  |none=>simp[hq]at hz
  |some v=>exact⟨v,rfl⟩
 have ry:=qu e.bJ h2 e2
 obtain⟨news,hs,cx,eZ,cy⟩:=Hx m hu ij cw ry
 have oJ:aF (.bw C.K) (ys.flatMap AVal.flat) news:=cx.pure (Oi Oj)
 have eh:∀ {z:Value} {w':World},(Builtin.append_ #[t,u] o.type #[a.eval x,a.eval y]).run P w=.ok z w'→(execOp a.eval o).run P w=.ok (.value z) w':=by
  intro z w' h
  simp[execOp,ho,resolve,dk,ha,kG,invoke,builtin,h]
 have lF:news.length=ys.length*sz:=by rw[cx.length,yl ys eZ]
 obtain⟨r0,q,cap,hβ,hT,hlc,hx⟩:=HC (qu e.bJ h1 e1)
 obtain⟨q',jB,k1,k2,k3,k4,k5⟩:=m.box bx _ r0 fR hβ
 have heq:=(k2 _ hT rfl).2 rfl
 simp only[Prod.mk.injEq]at heq
 obtain⟨rfl,rfl⟩:=heq
 have oK:∀x,C.T x→x.1=r0→x.2.1<bm+1:=fun x hx hr=>by have:=(k2 x hx hr).1;omega
 have rU:=(m.lt bx r0 hβ).2
 -- the old cells
 obtain⟨cells,te,vs,g1,g2,g3,g4,g5,g6,g7⟩:=id k3
 have rS:vs.length=xs.length*sz:=by rw[g5.length,yl xs g4]
 have hvle:xs.length*sz≤cap*sz:=Jg _ g2
 have hlle:len*sz≤xs.length*sz:=Jg _ hle
 have hold:∀oL:List Value,aF (.bw C.K) (xs.flatMap AVal.flat) oL→(∀(j:Nat) v,oL[j]?=I v→w.cell? ⟨q,j,Eb⟩=I v)→vs.take (len*sz)=oL.take (len*sz):=by
  intro oL h3 h4
  have HD:oL.length=vs.length:=by rw[h3.length,g5.length]
  have:oL=vs:=by
   apply Eag
   intro j
   by_cases hj:j<vs.length
   ·have h5:=h4 j _ (H2 (by omega))
    have h6:=g6 j _ (H2 hj)
    unfold World.cell? at h5
    rw[g1]at h5
    simp only[Rw,Qn,if_false]at h5
    rw[H2 hj,H2 (by omega),←h5,h6]
   ·rw[Xp (by omega),Xp (by omega)]
  rw[this]
 by_cases dG:len+ys.length≤cap
 ·-- there is room
  have fP:(len+ys.length)*sz≤cap*sz:=Jg _ dG
  rw[Yg]at fP
  have aY:=N6 (P:=P) (w:=w) (ty:=o.type) ht hi q 0 len cap (a.eval y) ys.length news (iY▸hs) dG g1 (by rw[iY,lF];omega)
  rw[←hx,iY]at aY
  have qK:=CZ g1 (cells.toList.take (0+len*sz)++news++cells.toList.drop (0+len*sz+news.length)).toArray
  have kL:=setRow_heap w q cells (cells.toList.take (0+len*sz)++news++cells.toList.drop (0+len*sz+news.length)).toArray te (0,0) g1
  generalize N5:w.setRow q (cells.toList.take (0+len*sz)++news++cells.toList.drop (0+len*sz+news.length)).toArray=w' at aY qK kL
  have vp:dE C.K w' q sz (xs.take len++ys) cap:=by
   refine dE.grown (dP:=vs.take (len*sz)) k3 hle oJ eZ cy hold dG (by simp;omega) kL ?_
   intro j v hj
   rw[Ib]
   have dX:(cells.toList.take (0+len*sz)).length=len*sz:=by simp;omega
   have kM:(vs.take (len*sz)).length=len*sz:=by simp;omega
   by_cases Ba:j<len*sz
   ·rw[Q9,Ga (by rw[dX];exact Ba)]
    rw[Ga (by rw[kM];exact Ba),Qo Ba]at hj
    rw[Qo (by omega),Hu]
    exact g6 j v hj
   ·rw[Ha (by rw[kM];omega),kM]at hj
    have hjn:j-len*sz<news.length:=(Gc.1 hj).1
    rw[Q9,Ha (by rw[dX];omega),dX,Ga hjn]
    exact hj
  have fin:∀(m1:aq P C ω w0 C0 (hp.set bx .dead) w') (e1:ai C ω w' w0.heap.size env a.tmps) (Da:q=r0∨tq C ω w' w0.heap.size bx q (xs.take len++ys).length cap) (rV:∃cs t,w'.heap[r0]?=I (.cells cs t (0,0))),
    jt P C0 w0 C a.tmps d env ⟨.aA bx (bm+1) (len+ys.length),Ec,Eb,hp.set bx (.vec sz (bm+1) (xs.take len++ys))⟩ (.slice (I ⟨q,0,Eb⟩) (len+ys.length) cap) w':=by
   intro m1 e1 Da rV
   have m2:=m1.oH (b:=bx) (sz:=sz) (bm:=bm+1) (q:=q) (cap:=cap) (xs:=xs.take len++ys) hβ oK vp Da rV
   rw[Eav]at m2
   exact⟨_,ω,az.fS,m2,e1.tok,.aA _ _ _ r0 q cap hβ (.inr rfl) dG,by simp⟩
  refine⟨_,_,eh aY,?_⟩
  rcases k4 with rfl|k4
  ·refine fin ?_ (e.cW qK.gQ hβ) (.inl rfl) ⟨_,_,kL⟩
   exact m.dc qK.gQ hβ .dead (fun _ _ _ _ _ h=>h) ⟨_,_,kL⟩
  ·have hqr:q≠r0:=fun h=>k4.2.2.1 bx (by rw[hβ];exact congrArg I h.symm)
   have md:=m.oI hβ k5
   have m1:=md.vo (by rw[O4 rU]) k4 qK
   obtain⟨Ok,t5,k5⟩:=k5
   refine fin m1 ?_ (.inr ?_) ⟨Ok,t5,by rw[qK.other _ (Eah hqr)];exact k5⟩
   ·exact fun s y hy=>let ⟨v,j1,j2,j3⟩:=e s y hy; ⟨v,j1,j2,fun h=>(j3 h).gQ qK (by rw[k4.1];simp)⟩
   ·obtain⟨j1,j2,j3,j4,j5,_,j7⟩:=k4
    exact⟨j1,j2,j3,j4,j5,⟨_,te,kL,by simp,fun _ _ _ h=>by simp at h⟩,fun o ho=>j7 o (by simp)⟩
 ·-- there is none
  have bT:Builtin.nextslicecap (len+ys.length) cap*i.bytes≤281474976710656:=growslice_fits (by omega) (by
   rw[oA]
   exact Q7 (Yo hlen ig) (by decide))
  have Dj:(vs.take (len*sz)).length=len*i.size:=by rw[iY];simp;omega
  have aY:=run_append_grow_src w t u o.type el i zv ht hi lE (I ⟨q,0,Eb⟩) len cap (vs.take (len*sz)) (run_firstCells_some _ _ _ _ _ _ _ Dj (fun j v hj=>by
   rw[Ear]at hj
   split at hj
   ·have h3:=g6 j v hj
    have h4:w.cell? ⟨q,j,Eb⟩=I v:=by
     unfold World.cell?
     rw[g1]
     simp only[Rw,Qn,if_false]
     exact h3
    rw[add_lit,Eaw]
    exact h4
   ·cases hj)) (a.eval y) ys.length news (iY▸hs) (by omega) (by omega) bT
  rw[←hx]at aY
  have oD:=grownCap_ge w (len+ys.length) cap el
  have gv:zv.cells.size=sz:=by
   obtain⟨_,XI,kH,C8,_⟩:=yu (C:=C) hz
   have:=kH w
   simp[zeroValue,typeInfo,hi,lE]at this
   subst this
   have:=C8.length
   simp at this
   omega
  generalize dQ:((vs.take (len*sz)++news).toArray++Builtin.zeroCells zv.cells (grownCap w (len+ys.length) cap el-(len+ys.length)))=cZ at aY
  generalize hgc:grownCap w (len+ys.length) cap el=gc at aY oD dQ
  have gT:Ext w w.drew:=Ext.drew w
  have Ol:Ext w.drew (w.drew.alloc (.cells cZ el)):=Ext.alloc _ _ (fun c t fr h=>by cases h;rfl)
  have Dk:(w.drew.alloc (.cells cZ el)).heap[w.drew.heap.size]?=I (.cells cZ el (0,0)):=by rw[rP,if_pos rfl]
  have vp:dE C.K (w.drew.alloc (.cells cZ el)) w.drew.heap.size sz (xs.take len++ys) gc:=by
   refine dE.grown (dP:=vs.take (len*sz)) k3 hle oJ eZ cy hold oD ?_ Dk ?_
   ·rw[←dQ]
    have kM:(vs.take (len*sz)).length=len*sz:=by simp;omega
    simp only[Eai,Eab,Yv,kM,lF]
    have:(Builtin.zeroCells zv.cells (gc-(len+ys.length))).size=(gc-(len+ys.length))*sz:=by simp[Builtin.zeroCells,gv]
    rw[this,←Yg,←Yg]
    exact Jg _ (by omega)
   ·intro j v hj
    rw[←dQ,Q6 (by simpa using(Gc.1 hj).1)]
    simpa using hj
  have md:=((m.oI hβ k5).ext gT).iW w.drew.heap.size (.cell bx 0) (Hb _)
  have m1:=md.ext Ol
  obtain⟨Ok,t5,k5⟩:=k5
  have m2:=m1.oH (b:=bx) (sz:=sz) (bm:=bm+1) (q:=w.drew.heap.size) (cap:=gc) (xs:=xs.take len++ys) hβ oK vp (.inr ⟨by simp[b4],.inl (Q7 m.size gT.size),fun k hk=>by have:=(m.lt k _ hk).1;simp at this,rfl,rfl,⟨cZ,el,Dk,by simp,fun _ _ _ h=>by simp at h⟩,fun o _=>m.iE _ gT.size o⟩) ⟨Ok,t5,(gT.trans Ol).get k5⟩
  rw[Eav]at m2
  refine⟨_,_,eh aY,_,_,az.fS,m2,(((e.ext gT).fresh (Hb _)).ext Ol).tok,.aA _ _ _ r0 _ gc hβ (.inr rfl) (by omega),by simp⟩
theorem XQ (m:aq P C ω w0 C0 hp w)(e:ai C ω w w0.heap.size env tmps){bx sz cap xs cells}{te:TypeId}{vs}(hh:hp[bx]?=I .hole)(HE:aF C (xs.flatMap AVal.flat) vs)(vq:qr 0 xs=Ek)(cr:∀x∈xs,x.flat.length=sz)
  (cy:∀v∈vs,v.oneCell'=Ek) (hc:∀(j:Nat) v,vs[j]?=I v→cells[j]?=I v) (hcap:xs.length≤cap) (bT:cap*sz≤cells.size):
  jt P C0 w0 C tmps d env ⟨.aA bx 0 xs.length,Ec,Eb,hp.set bx (.vec sz 0 xs)⟩ (.slice (I ⟨w.heap.size,0,Eb⟩) xs.length cap) (w.alloc (.cells cells te)):=by
 obtain⟨m1,e1,vr⟩:=m.aG e hh (.cells cells te) (fun c t fr h=>by cases h;rfl) .dead (fun C' ω' w' _ hg=>⟨cells,te,hg⟩)
 have Dk:(w.alloc (.cells cells te)).heap[w.heap.size]?=I (.cells cells te (0,0)):=by rw[rP,if_pos rfl]
 have hβ:(C.box bx w.heap.size).β bx=I w.heap.size:=by simp[az.box]
 have m2:=m1.oH (b:=bx) (r:=w.heap.size) (sz:=sz) (bm:=0) (q:=w.heap.size) (cap:=cap) (xs:=xs) hβ (fun x hx hr=>by have:=m.gK x hx;omega) ⟨cells,te,vs,Dk,hcap,bT,cr,HE.pure (Oi vq),hc,cy⟩ (.inl rfl) ⟨cells,te,Dk⟩
 rw[Eav]at m2
 exact⟨_,ω,az.le_trans vr az.fS,m2,e1.tok,.aA _ _ _ w.heap.size w.heap.size cap hβ (.inr rfl) hcap,by simp⟩
theorem jbw (m:aq P C ω w0 C0 hp w)(e:ai C ω w w0.heap.size env a.tmps){c}{t u el:TypeId}{ut:TypeDesc}{x y x' y' sz Om b h0 rk ys vy h'}
  (ho:o.op=.call c) (dk:c.callee=.builtin .append) (dy:c.args.toList=[x,y]) (dX:c.argTypes.toList=[t,u]) (ht:P.underlying t=I (.slice el)) (hu:P.underlying u=I ut) (ij:uP ut=Ek)
  (hn:jc P el=I sz) (hb:l6 P el=I b) (h1:qt x=I x') (h2:qt y=I y') (e1:qg env x'=I (.list Ek Om [])) (e2:qg env y'=I vy) (cw:j9 sz vy=I ys)
  (hlen:ys.length≤1073741824) (aS:ys≠[]) (ig:b≤4096) (Oj:qr 0 ys=Ek) (hzero:∃z,zq P el=I z∧z.length=sz) (cL:aG h0 hp rk (.vec sz 0 ys)=I h'):
  ∃v w',(execOp a.eval o).run P w=.ok (.value v) w'∧jt P C0 w0 C a.tmps d env ⟨.aA (h0+rk) 0 ys.length,Ec,Eb,h'⟩ v w':=by
 obtain⟨hh,rfl⟩:=zt cL
 have ha:c.args=#[x,y]:=by apply O3;simpa using dy
 have kG:c.argTypes=#[t,u]:=by apply O3;simpa using dX
 obtain⟨i,hi,oA⟩:∃i,P.info? el=I i∧i.bytes=b:=by
  unfold l6 at hb
  cases hi:P.info? el with
  |none=>simp[hi]at hb
  |some i=>exact⟨i,rfl,by simpa[hi]using hb⟩
 have iY:i.size=sz:=by
  unfold jc at hn;rw[hi]at hn;simpa using hn
 obtain⟨z,hz,vj⟩:=hzero
 obtain⟨zv,lE⟩:∃zv,i.zero=I zv:=by
  unfold zq at hz;rw[hi]at hz
  cases hq:i.zero with
  |none=>simp[hq]at hz
  |some v=>exact⟨v,rfl⟩
 have ry:=qu e.bJ h2 e2
 obtain⟨news,hs,cx,eZ,cy⟩:=Hx m hu ij cw ry
 have eh:∀ {z:Value} {w':World},(Builtin.append_ #[t,u] o.type #[a.eval x,a.eval y]).run P w=.ok z w'→(execOp a.eval o).run P w=.ok (.value z) w':=by
  intro z w' h
  simp[execOp,ho,resolve,dk,ha,kG,invoke,builtin,h]
 have lF:news.length=ys.length*sz:=by rw[cx.length,yl ys eZ]
 have hx:a.eval x=.slice Eb 0 0:=by
  rcases(qu e.bJ h1 e1).cu with⟨_,_,hx⟩|⟨hf,_⟩|⟨hf,_⟩
  ·exact hx
  ·cases hf
  ·cases hf
 have oM:0<ys.length:=List.length_pos_iff.2 aS
 have bT:Builtin.nextslicecap (0+ys.length) 0*i.bytes≤281474976710656:=growslice_fits (by omega) (by
  rw[oA]
  exact Q7 (Yo (by omega) ig) (by decide:2^30*4096≤_))
 have aY:=run_append_grow_src w t u o.type el i zv ht hi lE Eb 0 0 [] (run_firstCells_none _ _ _ _ _) (a.eval y) ys.length news (iY▸hs) (by omega) (by omega) bT
 rw[←hx]at aY
 have oD:=grownCap_ge w (0+ys.length) 0 el
 have gv:zv.cells.size=sz:=by
  obtain⟨_,XI,kH,C8,_⟩:=yu (C:=C) hz
  have:=kH w
  simp[zeroValue,typeInfo,hi,lE]at this
  subst this
  have:=C8.length
  simp at this
  omega
 generalize dQ:(([]++news).toArray++Builtin.zeroCells zv.cells (grownCap w (0+ys.length) 0 el-(0+ys.length)))=cZ at aY
 generalize hgc:grownCap w (0+ys.length) 0 el=gc at aY oD dQ
 have gT:Ext w w.drew:=Ext.drew w
 have:=XQ (d:=d) (tmps:=a.tmps) (m.ext gT) (e.ext gT) (te:=el) (cap:=gc) (sz:=sz) (cells:=cZ) hh cx Oj eZ cy (fun j v hj=>by
  rw[←dQ,Eae,Q6 (by simpa using(Gc.1 hj).1)]
  simpa using hj) (by omega) (by
   rw[←dQ]
   have h5:(Builtin.zeroCells zv.cells (gc-(0+ys.length))).size=(gc-(0+ys.length))*sz:=by simp[Builtin.zeroCells,gv]
   simp only[Eai,Eab,Eae,lF,h5]
   rw[←Yg]
   exact Jg _ (by omega))
 rw[Eaw]at aY
 exact⟨_,_,eh aY,this⟩
theorem jam (m:aq P C ω w0 C0 hp w)(e:ai C ω w w0.heap.size env a.tmps){t el:TypeId}{ps len sz h0 rk z fi qs xs h'}
  (ho:o.op=.buildSlice t len ps) (ht:P.underlying t=I (.slice el)) (hn:jc P el=I sz) (hz:zq P el=I z) (hlen:sz*len≤65536) (Od:0<sz) (gv:z.length=sz)
  (la:tj ps.toList=I fi) (hq:zh env sz fi=I qs) (hx:kB (E3 len (qH sz z)) qs=I xs) (vq:qr 0 xs=Ek) (cL:aG h0 hp rk (.vec sz 0 xs)=I h'):
  ∃v w',(execOp a.eval o).run P w=.ok (.value v) w'∧jt P C0 w0 C a.tmps d env ⟨.aA (h0+rk) 0 xs.length,Ec,Eb,h'⟩ v w':=by
 obtain⟨hh,rfl⟩:=zt cL
 obtain⟨ds,aY,hdr,h1,nH,iH,bT⟩:=XF (C:=C) (ω:=ω) (w:=w) (w0:=w0) e ho ht hn hz hlen Od gv la hq hx
 refine⟨_,_,aY,?_⟩
 have eg:=XQ (d:=d) (tmps:=a.tmps) m e (te:=el) (cap:=len) (sz:=sz) (cells:=ds) hh hdr vq nH h1 (by intro j v h;simpa using h) (by omega) bT
 rw[iH]at eg ⊢
 exact eg
theorem q15 (m:aq P C ω w0 C0 hp w)(e:ai C ω w w0.heap.size env a.tmps){t:TypeId}{z}(ho:o.op=.alloc t)(hz:zq P t=I z):
  ∃v w',(execOp a.eval o).run P w=.ok (.value v) w'∧jt P C0 w0 C a.tmps d env ⟨.ct z.length,Ek,Eb,hp⟩ v w':=by
 obtain⟨_,zv,jT,b8,kH⟩:=yu (C:=C) hz
 have hx:Ext w (w.alloc (.cells zv.cells t)):=Ext.alloc w _ (fun c t fr h=>by cases h;rfl)
 have gv:zv.cells.size=z.length:=by have:=b8.length;simpa using this
 refine⟨.pointer (I ⟨w.heap.size,0,Eb⟩),_,by simp[execOp,ho,Instr.alloc,jT,newVar,newRow],C,Abs.b4 ω w.heap.size d,az.le_refl C,(m.iW _ d (Hb _)).ext hx,(e.fresh (Hb _)).ext hx,.ct _ _,fun _=>?_⟩
 refine⟨by simp[Abs.b4],.inl m.size,fun b hb=>by have:=(m.lt b _ hb).1;simp at this,rfl,rfl,⟨zv.cells,t,by rw[rP,if_pos rfl],by simp;omega,fun _ _ _ h=>by simp at h⟩,fun o _=>m.iE _ (Hb _) o⟩
theorem q36 (m:aq P C ω w0 C0 hp w)(e:ai C ω w w0.heap.size env a.tmps){t:TypeId}{x y y' n s v}(ho:o.op=.store t x y)(hn:jc P t=I n)
  (h1:qt x=I (.tmp s)) (h2:qt y=I y') (hl:ja s env=I (.ct n,Ek)) (e2:qg env y'=I v) (rS:v.flat.length=n) (hs:v.flat.all qk=Ek):
  ∃w' C' ω',(execOp a.eval o).run P w=.ok .skip w'∧C.le C'∧aq P C' ω' w0 C0 hp w'∧ai C' ω' w' w0.heap.size ((s,.ax v,Ec)::env) a.tmps:=by
 obtain⟨cv,c1,c2,c3⟩:=e s _ hl
 have lH:a.eval x=cv:=by
  cases x with
  |tmp t'=>
   simp only[qt]at h1
   cases h1
   simp[Act.eval,If,c1]
  |const u=>simp only[qt]at h1;split at h1<;>cases h1
  |func f=>simp[qt]at h1
  |global g=>simp[qt]at h1
 cases c2 with
 |ct _ ad=>
  obtain⟨hω,hB,hβ,jS,rR,⟨cells,te,hg,bT,_⟩,hK⟩:=c3 rfl
  obtain⟨r,q,sp⟩:=ad
  simp only at hω hB hβ jS rR hg bT hK
  subst jS
  subst rR
  have ry:=qu e.bJ h2 e2
  have hc:=vb ry hs
  have cy:=vf hc (fun y hy=>Eaj.1 hs y hy)
  have vm:(a.eval y).cells.toList.length=n:=by rw[hc.length,rS]
  have aY:=Ob (P:=P) (t:=t) (off:=0) hn vm hg (by omega) cy
  obtain⟨m',e',hle⟩:=XG (d:=.slot s) m e (r:=r) (q:=0) (news:=(a.eval y).cells.toList) hω hB hβ hg (by omega) (fun o _=>hK o (by simp)) cy
  refine⟨_,_,_,?_,hle,m',?_⟩
  ·simp only[execOp,ho,Instr.storeAt,Sem.run_bind,lH,Instr.sureAddr,Sem.run_pure,Result.andThen_ok,aY]
  ·intro t' z hz
   by_cases kK:t'=s
   ·subst kK
    simp only[ja,Eam,cond_true,I.injEq]at hz
    subst hz
    exact⟨_,c1,.ax _ _ _ (az.eu (fun o _=>hK o (by simp)) hc),by simp⟩
   ·have hb:Jq s t'=Ec:=by
     cases hb:Jq s t' with
     |false=>rfl
     |true=>exact absurd (En hb).symm kK
    simp only[ja,hb,cond_false]at hz
    refine e' t' z ?_
    simp only[ze,hl,ja,hb,cond_false]
    exact hz
end
section
variable {P:Program}{C C0:az}{ω:Nat→Option Loc}{w w' w0:World}{hp:ql}{env:Env}{a:Act}{o:Oper}{tmps:Array Value}{d:Loc}
def zy (w:World)(r:Nat)(x:Obj):World:={ w with heap:=w.heap.setIfInBounds r x }
theorem Dl {r x}(h:r<w.heap.size):(zy w r x).heap[r]?=I x:=by
 show(w.heap.setIfInBounds r x)[r]?=_
 rw[Array.getElem?_setIfInBounds_self_of_lt h]
theorem Bb {r x}(h:r<w.heap.size)(hx:∀c t fr,x=.cells c t fr→fr=(0,0)):lG w (zy w r x) r where
 size:=by simp[zy]
 other k hk:=by
  show(w.heap.setIfInBounds r x)[k]?=_
  rw[Array.getElem?_setIfInBounds_ne (Eah hk)]
 fz c t fr hc:=by
  rw[Dl h]at hc
  exact hx c t fr (I.inj hc)
 os:=rfl
 output:=rfl
theorem tA {r x y}(h:w.heap[r]?=I y)(hy:∀c t f,y≠.cells c t f):(setObj r x).run P w=.ok () (zy w r x):=by
 cases y with
 |cells c t f=>exact absurd rfl (hy c t f)
 |_=>simp[setObj,Sem.run,zy,h]
theorem yw {r y}(h:w.heap[r]?=I y)(hy:∀c t f,y≠.cells c t f):(getObj r).run P w=.ok y w:=by
 cases y with
 |cells c t f=>exact absurd rfl (hy c t f)
 |_=>simp[getObj,Sem.run,h]
theorem q58 (m:aq P C ω w0 C0 hp w)(e:ai C ω w w0.heap.size env a.tmps){x x' b pos s}(ho:o.op=.next x Ek)(h1:qt x=I x')(e1:qg env x'=I (.ptr b 0))(fR:hp[b]?=I (.iter s pos)):
  (pos<s.length→∀h',jh hp b (.iter s (pos+(qf s pos).2))=I h'→∃v w',(execOp a.eval o).run P w=.ok (.value v) w'∧jt P C0 w0 C a.tmps d env ⟨.av [.bool Ek,.int .i64 pos,.int .i32 (qf s pos).1],Ec,Eb,h'⟩ v w') ∧
  (¬pos<s.length→∃v w',(execOp a.eval o).run P w=.ok (.value v) w'∧jt P C0 w0 C a.tmps d env ⟨.av [.bool Ec],Ec,Eb,hp⟩ v w'):=by
 obtain⟨r,hr,hq⟩:=(qu e.bJ h1 e1).cI
 have fQ:w.heap[r]?=I (.stringIter ⟨⟨s⟩⟩ pos):=m.box b _ r fR hr
 have aC:=(m.lt b r hr).1
 have cr:(⟨⟨s⟩⟩:ByteArray).size=s.length:=rfl
 constructor
 ·intro oM h' aZ
  obtain rfl:=vk aZ
  have hu:=Bb (w:=w) (r:=r) (x:=.stringIter ⟨⟨s⟩⟩ (pos+(qf s pos).2)) aC (by simp)
  refine⟨.tuple #[.bool Ek,goInt pos,.int .i32 (qf s pos).1],zy w r (.stringIter ⟨⟨s⟩⟩ (pos+(qf s pos).2)),?_,C,ω,az.le_refl C,m.dc hu hr _ (fun _ _ _ _ _ h=>h) (Dl aC),e.cW hu hr,?_,by simp⟩
  ·have dH:pos<(⟨⟨s⟩⟩:ByteArray).size:=oM
   have aZ:=tA (P:=P) (x:=.stringIter ⟨⟨s⟩⟩ (pos+(qf s pos).2)) fQ (by simp)
   simp only[execOp,ho,hq,Instr.next,Sem.run_bind,yw fQ (by simp),Result.andThen_ok,dH,if_true]
   unfold qf at aZ ⊢
   simp only[Sem.run_bind,aZ,Result.andThen_ok,Sem.run_pure]
  ·refine .av _ _ (.cons _ _ _ _ (.bool _) (.cons _ _ _ _ ?_ (.cons _ _ _ _ (.int _ _) .nil)))
   exact .int _ _
 ·intro oM
  have dH:¬pos<(⟨⟨s⟩⟩:ByteArray).size:=oM
  refine⟨.tuple #[.bool Ec],w,?_,Xy m e (.av _ _ (.cons _ _ _ _ (.bool _) .nil))⟩
  simp only[execOp,ho,hq,Instr.next,Sem.run_bind,yw fQ (by simp),Result.andThen_ok,dH,if_false,Sem.run_pure]
theorem Oo {t:TypeId}{kd}(h:iV P t=I kd):(kd=.int∧∃k,P.underlying t=I (.int k))∨(kd=.str∧P.underlying t=I .string)∨(kd=.bool∧P.underlying t=I .bool):=by
 unfold iV at h
 split at h<;>first|cases h|skip
 ·exact .inl ⟨rfl,_,‹_›⟩
 ·exact .inr (.inl ⟨rfl,‹_›⟩)
 ·exact .inr (.inr ⟨rfl,‹_›⟩)
theorem XR {t:TypeId}{td:TypeDesc}{kd x y u v b}(ht:P.underlying t=I td)(hk:iV P t=I kd)(hx:bp C x u)(hy:bp C y v)(h:mX kd x y=I b):Instr.sameNow td u v=I b∧(b=Ek→x=y∧u=v∧Instr.sameBits 10000 v u=Ek):=by
 rcases Oo hk with⟨rfl,k,hu⟩|⟨rfl,hu⟩|⟨rfl,hu⟩<;>rw[hu]at ht<;>cases ht
 ·cases x<;>cases y<;>simp only[mX]at h<;>first|cases h|skip
  rename_i k1 n1 k2 n2
  have e1:=hx.br
  have e2:=hy.br
  subst e1;subst e2
  by_cases mr:k1=k2
  ·subst mr
   simp only[decide_true,cond_true,I.injEq]at h
   refine⟨by simp[Instr.sameNow,h],fun hb=>?_⟩
   subst hb
   have:n1=n2:=by simpa using h
   subst this
   exact⟨rfl,rfl,by simp[Instr.sameBits]⟩
  ·simp[mr]at h
 ·cases x<;>cases y<;>simp only[mX]at h<;>first|cases h|skip
  rename_i s1 s2
  have e1:=hx.bL
  have e2:=hy.bL
  subst e1;subst e2
  have Dm:((⟨⟨s1⟩⟩:ByteArray) == ⟨⟨s2⟩⟩)=(s1 == s2):=by
   show(Array.mk s1 == Array.mk s2)=_
   simp
  refine⟨by simp only[Instr.sameNow,Dm],fun hb=>?_⟩
  have Bc:s1=s2:=by simpa using hb
  subst Bc
  refine⟨rfl,rfl,?_⟩
  simp only[Instr.sameBits,Dm]
  simp
 ·cases x<;>cases y<;>simp only[mX]at h<;>first|cases h|skip
  rename_i b1 b2
  have e1:=hx.cH
  have e2:=hy.cH
  subst e1;subst e2
  refine⟨by simp[Instr.sameNow],fun hb=>?_⟩
  have Bc:b1=b2:=by simpa using hb
  subst Bc
  exact⟨rfl,rfl,by simp[Instr.sameBits]⟩
theorem Dn {t:TypeId}{td:TypeDesc}{kd k u}(ht:P.underlying t=I td)(hk:iV P t=I kd)(hx:bp C k u):∀ {es:List (AVal×AVal)} {ms:List MapEntry} {i:Nat} {r:Option (Nat×AVal)},bU C es ms→zb kd k es i=I r →
  match r with
  |none=>Instr.findNow td u ms i=I Eb
  |some (j,v)=>∃m,i≤j∧es[j-i]?=I (k,v)∧ms[j-i]?=I m∧m.key=u∧bp C v m.val∧Instr.findNow td u ms i=I (I (j,m.val))∧Instr.sameBits 10000 m.key u=Ek
 |_,_,i,r,.nil,h=>by
  simp only[zb,I.injEq]at h
  subst h
  simp[Instr.findNow]
 |_,_,i,r,.cons k' v' es m ms h1 h2 h3,h=>by
  simp only[zb]at h
  split at h
  ·rename_i he
   cases h
   obtain⟨q1,q2⟩:=XR ht hk hx h1 he
   obtain⟨rfl,rfl,q3⟩:=q2 rfl
   exact⟨m,Hb _,by simp,by simp,rfl,h2,by simp[Instr.findNow,q1],q3⟩
  ·rename_i he
   obtain⟨q1,_⟩:=XR ht hk hx h1 he
   have ih:=Dn ht hk hx h3 h
   cases r with
   |none=>simp only[Instr.findNow,q1];exact ih
   |some jv=>
    obtain⟨j,v⟩:=jv
    obtain⟨m2,k1,k2,k3,k4,k5,k6,k7⟩:=ih
    refine⟨m2,by omega,?_,?_,k4,k5,by simp only[Instr.findNow,q1];exact k6,k7⟩
    ·rw[show j-i=(j-(i+1))+1 from by omega];simpa using k2
    ·rw[show j-i=(j-(i+1))+1 from by omega];simpa using k3
  ·cases h
theorem Bd {t:TypeId}{kd}(hk:iV P t=I kd)(e:Bool)(v:Value):(Instr.checkKey e 10000 t v).run P w=.ok () w:=by
 rcases Oo hk with⟨_,k,hu⟩|⟨_,hu⟩|⟨_,hu⟩<;>(unfold Instr.checkKey;simp[run_underlying hu])
theorem Dp {t:TypeId}{td:TypeDesc}{u ms r}(ht:P.underlying t=I td)(h:Instr.findNow td u ms 0=I r):(Instr.findKey t u ms).run P w=.ok r w:=by
 simp[Instr.findKey,run_underlying ht,h]
theorem Oq {t:TypeId}{kd}(hk:iV P t=I kd):∃td,P.underlying t=I td:=by
 rcases Oo hk with⟨_,k,hu⟩|⟨_,hu⟩|⟨_,hu⟩<;>exact⟨_,hu⟩
theorem Ot (m:aq P C ω w0 C0 hp w)(e:ai C ω w w0.heap.size env a.tmps){t kt el:TypeId}{x y ok x' y' kd zv mv kv r}(ho:o.op=.lookup t x y ok)(ht:P.underlying t=I (.map kt el))(gN:iV P kt=I kd)(hz:ND P el=I zv)
  (h1:qt x=I x') (h2:qt y=I y') (e1:qg env x'=I mv) (e2:qg env y'=I kv)
  (hv:(mv=.bB∧r=Eb)∨∃b es,mv=.map b∧hp[b]?=I (.map es)∧zb kd kv es 0=I r):
  Val P C a o w (match r with
   |some (_,v)=>bif ok then .av [v,.bool Ek]else v
   |none=>bif ok then .av [zv,.bool Ec]else zv):=by
 have gw:=qu e.bJ h2 e2
 have qL:=qu e.bJ h1 e1
 obtain⟨td,oN⟩:=Oq gN
 obtain⟨Dq,jT,lE⟩:∃v,(∀w,(zeroValue el).run P w=.ok v w)∧bp C zv v:=by
  unfold ND at hz
  split at hz
  ·rename_i i hi
   split at hz
   ·rename_i v hv
    exact⟨v,fun w=>by simp[zeroValue,typeInfo,hi,hv],Xc C hz⟩
   ·cases hz
  ·cases hz
 have fin:∀ {ms:List MapEntry} {rv:Option (Nat×Value)},(a.eval x=.map Eb∧ms=[]∨∃q clock,a.eval x=.map (I q)∧w.heap[q]?=I (.map ⟨ms⟩ clock))→Instr.findNow td (a.eval y) ms 0=I rv →
   (execOp a.eval o).run P w=.ok (.value (if ok then .tuple #[(match rv with|some (_,v)=>v|none=>Dq),.bool rv.isSome]else(match rv with|some (_,v)=>v|none=>Dq))) w:=by
  intro ms rv hm hf
  have qM:=Dp (w:=w) oN hf
  rcases hm with⟨hm,rfl⟩|⟨q,clock,hm,hq⟩
  ·cases rv<;>simp[execOp,ho,Instr.lookup,run_underlying ht,hm,Bd gN,qM,jT]
  ·cases rv<;>simp[execOp,ho,Instr.lookup,run_underlying ht,hm,yw hq (by simp),Bd gN,qM,jT]
 rcases hv with⟨rfl,rfl⟩|⟨b,es,rfl,hb,hfe⟩
 ·generalize mA:a.eval x=mx at qL
  cases qL
  refine⟨_,fin (ms:=[]) (rv:=none) (.inl ⟨mA,rfl⟩) (by simp[Instr.findNow]),?_⟩
  cases ok with
  |true=>exact .av _ _ (.cons _ _ _ _ lE (.cons _ _ _ _ (.bool _) .nil))
  |false=>exact lE
 ·generalize mA:a.eval x=mx at qL
  cases qL with
  |map _ q nj=>
   obtain⟨bE,clock,g1,g2⟩:=m.box b _ q hb nj
   have hf:=Dn oN gN gw g2 hfe
   cases r with
   |none=>
    refine⟨_,fin (ms:=bE.toList) (rv:=none) (.inr ⟨q,clock,mA,g1⟩) hf,?_⟩
    cases ok with
    |true=>exact .av _ _ (.cons _ _ _ _ lE (.cons _ _ _ _ (.bool _) .nil))
    |false=>exact lE
   |some jv=>
    obtain⟨j,v⟩:=jv
    obtain⟨me,_,_,_,_,XS,hfn,_⟩:=hf
    refine⟨_,fin (ms:=bE.toList) (rv:=I (j,me.val)) (.inr ⟨q,clock,mA,g1⟩) hfn,?_⟩
    cases ok with
    |true=>exact .av _ _ (.cons _ _ _ _ XS (.cons _ _ _ _ (.bool _) .nil))
    |false=>exact XS
theorem bU.gQ {k v:AVal}:∀ {es:List (AVal×AVal)} {ms:List MapEntry} {j:Nat} {m:MapEntry},bU C es ms→bp C v m.val→(∀k',(es[j]?).map (·.1)=I k'→bp C k' m.key)→bU C (rN es j v) (ms.set j m)
 |_,_,j,m,.nil,_,_=>by simp[rN];exact .nil
 |_,_,0,m,.cons k' v' es m' ms h1 h2 h3,hv,hk=>by
  simp only[rN,List.set_cons_zero]
  exact .cons _ _ _ _ _ (hk k' (by simp)) hv h3
 |_,_,j+1,m,.cons k' v' es m' ms h1 h2 h3,hv,hk=>by
  simp only[rN,List.set_cons_succ]
  exact .cons _ _ _ _ _ h1 h2 (bU.gQ (k:=k) h3 hv (fun k' h=>hk k' (by simpa using h)))
theorem bU.push {k v m es ms}(h:bU C es ms)(hk:bp C k m.key)(hv:bp C v m.val):bU C (es++[(k,v)]) (ms++[m]):=by
 induction h with
 |nil=>exact .cons _ _ _ _ _ hk hv .nil
 |cons k' v' es m' ms h1 h2 _ ih=>exact .cons _ _ _ _ _ h1 h2 ih
theorem XT (m:aq P C ω w0 C0 hp w)(e:ai C ω w w0.heap.size env a.tmps){t kt el:TypeId}{x y z x' y' z' kd kv v b es h'}(ho:o.op=.mapUpdate t x y z∨o.op=.insert t x y z)(ht:P.underlying t=I (.map kt el))(gN:iV P kt=I kd)
  (h1:qt x=I x') (h2:qt y=I y') (h3:qt z=I z') (e1:qg env x'=I (.map b)) (e2:qg env y'=I kv) (e3:qg env z'=I v) (hb:hp[b]?=I (.map es))
  (hv:(∃i u,zb kd kv es 0=I (I (i,u))∧jh hp b (.map (rN es i v))=I h')∨(zb kd kv es 0=I Eb∧jh hp b (.map (es++[(kv,v)]))=I h')):
  ∃w',(execOp a.eval o).run P w=.ok .skip w'∧jt P C0 w0 C a.tmps d env ⟨.undef,Ec,Eb,h'⟩ undef w':=by
 have gw:=qu e.bJ h2 e2
 have XU:=qu e.bJ h3 e3
 have qL:=qu e.bJ h1 e1
 obtain⟨td,oN⟩:=Oq gN
 generalize mA:a.eval x=mx at qL
 cases qL with
 |map _ q nj=>
  obtain⟨bE,clock,g1,g2⟩:=m.box b _ q hb nj
  have aC:=(m.lt b q nj).1
  have done:∀(vt:List (AVal×AVal)) (oO:Array MapEntry) (jC:Nat),bU C vt oO.toList→jh hp b (.map vt)=I h' →
    (execOp a.eval o).run P w=.ok .skip (zy w q (.map oO jC))→∃w',(execOp a.eval o).run P w=.ok .skip w'∧jt P C0 w0 C a.tmps d env ⟨.undef,Ec,Eb,h'⟩ undef w':=by
   intro vt oO jC Ou aZ aY
   obtain rfl:=vk aZ
   have hu:=Bb (w:=w) (r:=q) (x:=.map oO jC) aC (by simp)
   exact⟨_,aY,C,ω,az.le_refl C,m.dc hu nj _ (fun _ _ _ _ _ h=>h) ⟨oO,jC,Dl aC,Ou⟩,e.cW hu nj,.undef,by simp⟩
  rcases hv with⟨i,u,hf,aZ⟩|⟨hf,aZ⟩
  ·obtain⟨me,_,k1,k2,k3,k4,k5,k6⟩:=Dn oN gN gw g2 hf
   have qM:=Dp (w:=w) oN k5
   simp only[Nat.sub_zero]at k1 k2
   have Ov:bE[i]?=I me:=by simpa using k2
   have hlen:i<bE.size:=(Jp.1 Ov).1
   refine done (rN es i v) (bE.modify i fun e=>{ e with key:=a.eval y,val:=a.eval z }) clock ?_ aZ ?_
   ·have:(bE.modify i fun e=>{ e with key:=a.eval y,val:=a.eval z }).toList=bE.toList.set i { me with key:=a.eval y,val:=a.eval z }:=by
     apply Eag
     intro j
     rw[Hu,Array.getElem?_modify,Eax]
     by_cases ox:i=j
     ·subst ox
      have hgi:=(Jp.1 Ov).2
      simp[hlen,hgi]
     ·simp[ox]
    rw[this]
    refine bU.gQ (k:=kv) g2 XU (fun k' ei=>?_)
    rw[k1]at ei
    cases ei
    exact gw
   ·have ft:=tA (P:=P) (x:=.map (bE.modify i fun e=>{ e with key:=a.eval y,val:=a.eval z }) clock) g1 (by simp)
    have Dr:∀w:World,(Instr.keyThatStays (((bE[i]?).map (·.key)).getD (a.eval y)) (a.eval y)).run P w=.ok (a.eval y) w:=by
     intro w
     simp[Instr.keyThatStays,Ov,k6]
    rcases ho with ho|ho<;>simp only[execOp,ho,Instr.mapUpdate,Sem.run_bind,run_underlying ht,Result.andThen_ok,mA,yw g1 (by simp),Bd gN,qM,Dr,ft,Sem.run_pure]
  ·have NP:=Dn oN gN gw g2 hf
   have qM:=Dp (w:=w) oN NP
   refine done (es++[(kv,v)]) (bE.push { key:=a.eval y,val:=a.eval z,born:=clock }) (clock+1) ?_ aZ ?_
   ·rw[Array.toList_push]
    exact g2.push gw XU
   ·have ft:=tA (P:=P) (x:=.map (bE.push { key:=a.eval y,val:=a.eval z,born:=clock }) (clock+1)) g1 (by simp)
    rcases ho with ho|ho<;>simp only[execOp,ho,Instr.mapUpdate,Sem.run_bind,run_underlying ht,Result.andThen_ok,mA,yw g1 (by simp),Bd gN,qM,ft,Sem.run_pure]
end
section
variable {P:Program}{C C0:az}{ω:Nat→Option Loc}{w w' w0:World}{hp:ql}{env:Env}{a:Act}{o:Oper}{tmps:Array Value}{d:Loc}
theorem qu0 {n sz len cap:Nat}{base:Option Addr}{cs:List Value}(hl:cs.length=n*sz)(h:∀ad,base=I ad→∀j v,cs[j]?=I v→w.cell? (ad.add j)=I v)(hn:base=Eb→n=0):
  (Builtin.firstCells sz n (.slice base len cap)).run P w=.ok cs.toArray w:=by
 cases base with
 |none=>
  have:cs=[]:=by
   have:=hn rfl
   subst this
   exact List.length_eq_zero_iff.1 (by simpa using hl)
  subst this
  exact run_firstCells_none _ _ _ _ _
 |some ad=>exact run_firstCells_some w _ _ _ _ _ cs hl (h ad rfl)
theorem q92 (m:aq P C ω w0 C0 hp w)(e:ai C ω w w0.heap.size env a.tmps){c:Call}{t:TypeId}{ts:List TypeId}{el:TypeId}{x y x' y' sz b q len n vy us cs dV h'}
  (ho:o.op=.call c) (dk:c.callee=.builtin .copy) (dy:c.args.toList=[x,y]) (dX:c.argTypes.toList=t::ts) (ht:P.underlying t=I (.slice el)) (hn:jc P el=I sz)
  (h1:qt x=I x') (h2:qt y=I y') (e1:qg env x'=I (.ms b q len)) (e2:qg env y'=I vy) (ld:ji hp b=I cs) (cw:Hc sz len vy=I (n,us)) (bH:z7 cs q us=I dV) (CV:us.length=n*sz) (aZ:jh hp b (.cells dV)=I h'):
  ∃u w',(execOp a.eval o).run P w=.ok (.value u) w'∧jt P C0 w0 C a.tmps d env ⟨.int .i64 n,Ec,Eb,h'⟩ u w':=by
 obtain⟨r,cap,hr,hle,hq⟩:=(qu e.bJ h1 e1).ef
 have ry:=qu e.bJ h2 e2
 unfold z7 at bH
 cases hb:(Eap (q+us.length) cs.length&&us.all qk)with
 |false=>simp[hb]at bH
 |true=>
  simp only[hb,cond_true,I.injEq]at bH
  simp only[Jn]at hb
  subst bH
  -- the source
  obtain⟨news,base,sl,sc,hy,cx,hcells,Ow,oC⟩:∃news base sl sc,a.eval y=.slice base sl sc∧aF C us news∧(∀ad,base=I ad→∀j v,news[j]?=I v→w.cell? (ad.add j)=I v)∧Nat.min sl len=n∧(base=Eb→n=0):=by
   unfold Hc at cw
   split at cw
   ·rename_i nn sy ys
    cases hk:(Jq sz sy||ys.isEmpty)with
    |false=>simp[hk]at cw
    |true=>
     simp only[hk,cond_true,I.injEq,Prod.mk.injEq]at cw
     obtain⟨rfl,rfl⟩:=cw
     generalize a.eval y=vv at ry
     cases ry with
     |ic=>exact⟨[],Eb,0,0,rfl,by simpa using ay.nil,by simp,by simp[Nat.min_def],by simp⟩
     |ie _ ad _=>exact⟨[],I ad,0,0,rfl,by simpa using ay.nil,by simp,by simp,by simp⟩
     |list _ _ r' o' jB hl cA=>
      have hc:bO C r' ((ys.take len).flatMap AVal.flat) o':=aO.cells (aO.take len cA)
      obtain⟨vs,k1,k2⟩:=hc.vals
      refine⟨vs,I ⟨r',o',Eb⟩,ys.length,jB,rfl,k1,?_,rfl,by simp⟩
      intro ad had j v hj
      cases had
      rw[add_lit]
      exact m.know _ _ _ (k2 j v hj)
   ·cases cw
  have cy:=vf cx (by simpa using hb.2)
  obtain⟨vs,te,hg,bT,m',e'⟩:=XL m e (kg ld) hr cx cy (Yk hb.1)
  obtain rfl:=vk aZ
  have hfc:=qu0 (P:=P) (w:=w) (n:=n) (sz:=sz) (len:=sl) (cap:=sc) (base:=base) (cs:=news) (by rw[cx.length,CV]) hcells oC
  have Ds:=run_storeCells_at (P:=P) r q te news 0 vs w hg (by simpa using bT) cy
  simp only[Eau]at Ds
  have aY:(Builtin.copy_ c.argTypes o.type (c.args.map a.eval)).run P w=.ok (goInt n) (w.setRow r (vs.toList.take q++news++vs.toList.drop (q+news.length)).toArray):=by
   have ha:c.args.map a.eval=#[a.eval x,a.eval y]:=by
    apply O3;simp[dy]
   have hat:c.argTypes[0]?=I t:=by rw[←Hu,dX];rfl
   rw[ha]
   simp only[Builtin.copy_,hat,Ib,Za,Zb,Sem.run_bind,run_underlying ht,Result.andThen_ok,hq,hy,Builtin.lenOf,Sem.run_pure,Ow,zk hn,hfc,Ds]
  refine⟨goInt n,_,?_,C,ω,az.le_refl C,m',e',?_,by simp⟩
  ·have ha:Array.map a.eval c.args=#[a.eval x,a.eval y]:=by
    apply O3;simp[dy]
   rw[ha]at aY
   simp[execOp,ho,resolve,dk,ha,invoke,builtin,aY]
  ·exact .int _ _
theorem bU.erase:∀ {es:List (AVal×AVal)} {ms:List MapEntry} (j:Nat),bU C es ms→bU C (es.eraseIdx j) (ms.eraseIdx j)
 |_,_,j,.nil=>by simpa using bU.nil
 |_,_,0,.cons k' v' es m' ms h1 h2 h3=>by simpa using h3
 |_,_,j+1,.cons k' v' es m' ms h1 h2 h3=>by simpa using .cons _ _ _ _ _ h1 h2 (bU.erase j h3)
theorem q11 (m:aq P C ω w0 C0 hp w)(e:ai C ω w w0.heap.size env a.tmps){c}{t kt el:TypeId}{ts x y x' y' kd kv b es h' r}
  (ho:o.op=.call c) (dk:c.callee=.builtin .delete) (dy:c.args.toList=[x,y]) (dX:c.argTypes.toList=t::ts) (ht:P.underlying t=I (.map kt el)) (gN:iV P kt=I kd)
  (h1:qt x=I x') (h2:qt y=I y') (e1:qg env x'=I (.map b)) (e2:qg env y'=I kv) (hb:hp[b]?=I (.map es))
  (hf:zb kd kv es 0=I r) (aZ:jh hp b (.map (W6 es r))=I h'):
  ∃u w',(execOp a.eval o).run P w=.ok (.value u) w'∧jt P C0 w0 C a.tmps d env ⟨.av [],Ec,Eb,h'⟩ u w':=by
 have gw:=qu e.bJ h2 e2
 have qL:=qu e.bJ h1 e1
 obtain⟨td,oN⟩:=Oq gN
 have ha:Array.map a.eval c.args=#[a.eval x,a.eval y]:=by
  apply O3;simp[dy]
 have hat:c.argTypes[0]?=I t:=by rw[←Hu,dX];rfl
 generalize mA:a.eval x=mx at qL
 cases qL with
 |map _ q nj=>
  obtain⟨bE,clock,g1,g2⟩:=m.box b _ q hb nj
  have aC:=(m.lt b q nj).1
  have done:∀(vt:List (AVal×AVal)) (oO:Array MapEntry),bU C vt oO.toList→jh hp b (.map vt)=I h' →
    (Builtin.delete_ c.argTypes o.type #[.map (I q),a.eval y]).run P w=.ok (.tuple #[]) (zy w q (.map oO clock))→∃u w',(execOp a.eval o).run P w=.ok (.value u) w'∧jt P C0 w0 C a.tmps d env ⟨.av [],Ec,Eb,h'⟩ u w':=by
   intro vt oO Ou aZ aY
   obtain rfl:=vk aZ
   have hu:=Bb (w:=w) (r:=q) (x:=.map oO clock) aC (by simp)
   refine⟨.tuple #[],_,?_,C,ω,az.le_refl C,m.dc hu nj _ (fun _ _ _ _ _ h=>h) ⟨oO,clock,Dl aC,Ou⟩,e.cW hu nj,.av _ _ .nil,by simp⟩
   simp[execOp,ho,resolve,dk,ha,mA,invoke,builtin,aY]
  have hfn:=Dn oN gN gw g2 hf
  cases r with
  |none=>
   have qM:=Dp (w:=w) oN hfn
   refine done es bE g2 aZ ?_
   have ft:=tA (P:=P) (x:=.map bE clock) g1 (by simp)
   simp only[Builtin.delete_,hat,Ib,Za,Zb,Sem.run_bind,run_underlying ht,Result.andThen_ok,yw g1 (by simp),Bd gN,qM,ft,Sem.run_pure]
  |some jv=>
   obtain⟨j,v⟩:=jv
   obtain⟨me,_,k1,k2,k3,k4,k5,k6⟩:=hfn
   have qM:=Dp (w:=w) oN k5
   refine done (es.eraseIdx j) (bE.eraseIdxIfInBounds j) ?_ aZ ?_
   ·have:(bE.eraseIdxIfInBounds j).toList=bE.toList.eraseIdx j:=by simp
    rw[this];exact bU.erase j g2
   ·have ft:=tA (P:=P) (x:=.map (bE.eraseIdxIfInBounds j) clock) g1 (by simp)
    simp only[Builtin.delete_,hat,Ib,Za,Zb,Sem.run_bind,run_underlying ht,Result.andThen_ok,yw g1 (by simp),Bd gN,qM,ft,Sem.run_pure]
end
section
variable {P:Program}{p:jg}{xc:XC}{C C0:az}{ω:Nat→Option Loc}{w w0:World}{hp:ql}{env:Env}{a:Act}{o:Oper}{d:Loc}{h:qj}{md:dA}{r h0:Nat}{dst:Option Nat}{al:Option (List Nat)}{b3:cc}{res:aK}
def zi (P:Program)(C C0:az)(w0:World)(a:Act)(d:Loc)(env:Env)(o:Oper)(w:World)(res:aK):Prop:=
 (∃v w',(execOp a.eval o).run P w=.ok (.value v) w'∧jt P C0 w0 C a.tmps d env res v w') ∨
 (∃w',(execOp a.eval o).run P w=.ok .skip w'∧jt P C0 w0 C a.tmps d env res undef w') ∨
 (∃f args,(execOp a.eval o).run P w=.ok (.enter f args) w∧CallsIn Fence.wide 0 P f args w fun e w'=>∃v,e=.returned v∧jt P C0 w0 C a.tmps d env res v w') ∨
 (∃l f tmps assign body,(execOp a.eval o).run P w=.ok (.round l f tmps assign body) w∧RoundIn Fence.wide 0 P l f tmps assign body w fun e w'=>∃v,e=.returned v∧jt P C0 w0 C a.tmps d env res v w')
theorem q9 (m:aq P C ω w0 C0 hp w)(e:ai C ω w w0.heap.size env a.tmps){x}(hv:Val P C a o w x):zi P C C0 w0 a d env o w ⟨x,Ec,Eb,hp⟩:=by
 obtain⟨v,h1,h2⟩:=hv
 exact .inl ⟨v,w,h1,Xy m e h2⟩
theorem qw {x}(hs:val hp x=I res):res=⟨x,Ec,Eb,hp⟩:=by simpa[val]using hs.symm
theorem qN {x}(hs:kl hp x=I res):∃v,x=I v∧res=⟨v,Ec,Eb,hp⟩:=by
 cases x with
 |none=>simp[kl]at hs
 |some v=>exact⟨v,rfl,by simpa[kl]using hs.symm⟩
theorem HF (m:aq P C ω w0 C0 hp w)(e:ai C ω w w0.heap.size env a.tmps){x}(ho:o.op=.move x∨o.op=.assign x){y}(hc:qt x=I y)(hs:qo env hp (.move y)=I res):zi P C C0 w0 a d env o w res:=by
 simp only[qo]at hs
 obtain⟨v,hv,rfl⟩:=qN hs
 exact q9 m e (q7i e.bJ ho hc hv)
theorem XV (m:aq P C ω w0 C0 hp w)(e:ai C ω w w0.heap.size env a.tmps){s}(ho:o.op=.move (.tmp s)∨o.op=.assign (.tmp s))(hs:qo env hp (.take s)=I res):zi P C C0 w0 a d env o w res:=by
 simp only[qo]at hs
 split at hs
 ·rename_i v ow hl
  cases hs
  exact .inl (q7s m e ho hl)
 ·cases hs
theorem jao (m:aq P C ω w0 C0 hp w)(e:ai C ω w w0.heap.size env a.tmps){x}(ho:o.op=.move x)(hc:cf P h md r dst (.move x)=I b3)(hs:qb p xc h0 al env hp b3=I res):zi P C C0 w0 a d env o w res:=by
 simp only[cf]at hc
 split at hc
 ·rename_i s ht
  cases hc
  unfold W7 at ht
  split at ht
  ·split at ht
   ·cases ht;exact XV m e (.inl ho) hs
   ·cases ht
  ·cases ht
 ·obtain⟨y,hy,rfl⟩:=Ea.1 hc
  exact HF m e (.inl ho) hy hs
theorem q2h (m:aq P C ω w0 C0 hp w)(e:ai C ω w w0.heap.size env a.tmps){x}(ho:o.op=.assign x)(hc:cf P h md r dst (.assign x)=I b3)(hs:qb p xc h0 al env hp b3=I res):zi P C C0 w0 a d env o w res:=by
 cases x with
 |tmp s=>simp only[cf]at hc;cases hc;exact XV m e (.inr ho) hs
 |const v=>simp only[cf]at hc;obtain⟨y,hy,rfl⟩:=Ea.1 hc;exact HF m e (.inr ho) hy hs
 |func v=>simp only[cf]at hc;obtain⟨y,hy,rfl⟩:=Ea.1 hc;exact HF m e (.inr ho) hy hs
 |global v=>simp only[cf]at hc;obtain⟨y,hy,rfl⟩:=Ea.1 hc;exact HF m e (.inr ho) hy hs
theorem jbp (m:aq P C ω w0 C0 hp w)(e:ai C ω w w0.heap.size env a.tmps){c x y}(ho:o.op=.pick c x y)(hc:cf P h md r dst (.pick c x y)=I b3)(hs:qb p xc h0 al env hp b3=I res):zi P C C0 w0 a d env o w res:=by
 simp only[cf]at hc
 split at hc
 ·rename_i c' x' y' h1 h2 h3
  cases hc
  simp only[qb,qo]at hs
  split at hs
  ·rename_i b e1
   split at hs
   ·rename_i u v e2 e3
    obtain rfl:=qw hs
    exact q9 m e (q94 e.bJ ho h1 h2 h3 e1 e2 e3)
   ·cases hs
  ·cases hs
 ·cases hc
theorem qxl (m:aq P C ω w0 C0 hp w)(e:ai C ω w w0.heap.size env a.tmps){x}(ho:o.op=.nilCheck x)(hc:cf P h md r dst (.nilCheck x)=I b3)(hs:qb p xc h0 al env hp b3=I res):zi P C C0 w0 a d env o w res:=by
 simp only[cf]at hc
 obtain⟨y,hy,rfl⟩:=Ea.1 hc
 simp only[qb,qo]at hs
 split at hs
 ·rename_i b q hv;obtain rfl:=qw hs;exact q9 m e (Xi e.bJ ho hy hv (.inl ⟨_,_,rfl⟩))
 ·rename_i z hv;obtain rfl:=qw hs;exact q9 m e (Xi e.bJ ho hy hv (.inr ⟨_,rfl⟩))
 ·rename_i f u v hv
  obtain rfl:=qw hs
  have hr:=qu e.bJ hy hv
  refine q9 m e ⟨a.eval x,?_,hr⟩
  generalize hx:a.eval x=ev at hr
  cases hr with
  |fn f f' u v as bs hf ha hb=>
   simp only[eN]at hf
   subst hf
   simp[execOp,ho,hx]
 ·cases hs
theorem jjc (m:aq P C ω w0 C0 hp w)(e:ai C ω w w0.heap.size env a.tmps){op}{t:TypeId}{x}(ho:o.op=.unOp op t x)(hc:cf P h md r dst (.unOp op t x)=I b3)(hs:qb p xc h0 al env hp b3=I res):zi P C C0 w0 a d env o w res:=by
 simp only[cf]at hc
 obtain⟨y,hy,rfl⟩:=Ea.1 hc
 simp only[qb,qo]at hs
 split at hs
 ·rename_i v hv
  obtain⟨u,hu,rfl⟩:=qN hs
  exact q9 m e (jiu e.bJ ho hy hv hu)
 ·cases hs
theorem q8p (m:aq P C ω w0 C0 hp w)(e:ai C ω w w0.heap.size env a.tmps){s t:TypeId}{x}(ho:o.op=.convert s t x)(hc:cf P h md r dst (.convert s t x)=I b3)(hs:qb p xc h0 al env hp b3=I res):zi P C C0 w0 a d env o w res:=by
 simp only[cf]at hc
 split at hc
 ·rename_i k0 k u1 u2
  obtain⟨y,hy,rfl⟩:=Ea.1 hc
  simp only[qb,qo]at hs
  split at hs
  ·rename_i k1 n hv
   obtain rfl:=qw hs
   exact q9 m e (jby e.bJ ho u1 u2 hy hv)
  ·cases hs
 ·rename_i u1 u2
  obtain⟨y,hy,rfl⟩:=Ea.1 hc
  simp only[qb,qo]at hs
  split at hs
  ·rename_i l hv
   obtain rfl:=qw hs
   exact q9 m e (qz3 e.bJ ho u1 u2 hy hv ⟨_,rfl⟩)
  ·rename_i k1 n hv
   obtain rfl:=qw hs
   exact q9 m e (qww e.bJ ho u1 u2 hy hv)
  ·cases hs
 ·rename_i k0 u1 u2
  obtain⟨y,hy,rfl⟩:=Ea.1 hc
  simp only[qb,qo]at hs
  split at hs
  ·rename_i l hv
   obtain rfl:=qw hs
   exact q9 m e (qy1 e.bJ ho u1 u2 hy hv ⟨_,rfl⟩)
  ·rename_i k1 n hv
   obtain rfl:=qw hs
   exact q9 m e (qz1 e.bJ ho u1 u2 hy hv)
  ·cases hs
 ·cases hc
theorem XW {ag n y}(hs:qo env hp (.eI ag n y)=I res):zm h0 al env hp (.load ag n y)=I res:=by
 simp only[qo]at hs
 simp only[zm]
 split at hs
 ·rename_i v hv
  rw[hv];exact hs
 ·cases hs
theorem XX {g}:∀ {l:List (String×List Int)} {cs:List Int},CM P g l=I cs→∃n,(n,cs)∈l∧P.globalNamed n=I g
 | [],_,h=>by simp[CM]at h
 |(n,ds)::l,cs,h=>by
  simp only[CM]at h
  split at h
  ·rename_i hn
   cases h
   exact⟨n,Eas ..,by simpa using hn⟩
  ·obtain⟨n',h1,h2⟩:=XX h
   exact⟨n',Eao _ h1,h2⟩
theorem q5u {ns:List Int}:aF C (ns.map (AVal.int .i64)) (ns.map (Value.int .i64)):=by
 induction ns with
 |nil=>exact .nil
 |cons n ns ih=>exact .cons _ _ _ _ (.int _ _) ih
theorem q46 (m:aq P C ω w0 C0 hp w)(e:ai C ω w w0.heap.size env a.tmps){t:TypeId}{g}(ho:o.op=.load t (.global g))(hc:cf P h md r dst (.load t (.global g))=I b3)(hs:qb p xc h0 al env hp b3=I res):zi P C C0 w0 a d env o w res:=by
 have hc:Hf P t g=I b3:=hc
 unfold Hf at hc
 split at hc
 ·rename_i cs n hf hg hn
  split at hc
  ·rename_i hl
   cases hc
   have hl:cs.length=n:=by simpa using hl
   simp only[qb,qo,qg]at hs
   obtain⟨u,hu,rfl⟩:=qN hs
   cases hu
   obtain⟨nm,cG,XY⟩:=XX hf
   have ht:=(m.tabs g (.inr (.inr ⟨_,cG,XY⟩))).2.2.2 _ cG XY
   have dq:∀j v,(cs.map (Value.int .i64))[j]?=I v→w.cell? ⟨g,0+j,Eb⟩=I v:=by
    intro j v hj
    rw[St,Ea]at hj
    obtain⟨i,hi,rfl⟩:=hj
    rw[Eaw]
    exact ht j i hi
   have Dt:=Db (P:=P) (w:=w) hg hn (vs:=cs.map (Value.int .i64)) (by simpa using hl) dq
   refine q9 m e ⟨.agg ⟨cs.map (Value.int .i64)⟩,?_,.agg _ _ q5u⟩
   have lH:a.eval (.global g)=.pointer (I ⟨g,0,Eb⟩):=rfl
   simp[execOp,ho,Instr.loadAt,lH,Instr.sureAddr,Dt]
  ·cases hc
 ·cases hc
theorem jbf (m:aq P C ω w0 C0 hp w)(e:ai C ω w w0.heap.size env a.tmps){t:TypeId}{x}(ho:o.op=.load t x)(hc:cf P h md r dst (.load t x)=I b3)(hs:qb p xc h0 al env hp b3=I res):zi P C C0 w0 a d env o w res:=by
 have key:∀ {ag:Bool} {n:Nat} {y:jd},zn P t=I ag→jc P t=I n→(ag=Ec→n=1)→qt x=I y→zm h0 al env hp (.load ag n y)=I res→zi P C C0 w0 a d env o w res:=by
  intro ag n y hg hn Dd hy hs
  simp only[zm]at hs
  split at hs
  ·rename_i b q hv
   cases hk:jm h0 al b with
   |false=>simp[hk]at hs
   |true=>
    simp only[hk,cond_true]at hs
    split at hs
    ·rename_i cs hcs
     split at hs
     ·rename_i us gg
      cases ag with
      |true=>
       simp only[cond_true]at hs
       obtain rfl:=qw hs
       exact q9 m e (N8 m e.bJ ho hg hn Dd hy hv (.inl ⟨b,q,cs,us,rfl,hcs,gg,.inl ⟨rfl,rfl⟩⟩))
      |false=>
       simp only[cond_false]at hs
       split at hs
       ·obtain rfl:=qw hs
        exact q9 m e (N8 m e.bJ ho hg hn Dd hy hv (.inl ⟨b,q,cs,_,rfl,hcs,gg,.inr ⟨rfl,rfl⟩⟩))
       ·cases hs
     ·cases hs
    ·cases hs
  ·rename_i z hv
   cases hk:(Bool.xor ag z.isAgg||!(Jq z.flat.length n))with
   |true=>simp[hk]at hs
   |false=>
    simp only[hk,cond_false]at hs
    obtain rfl:=qw hs
    simp only[Bool.or_eq_false_iff,Bool.not_eq_false']at hk
    exact q9 m e (N8 m e.bJ ho hg hn Dd hy hv (.inr ⟨rfl,hk.1,En hk.2⟩))
  ·rename_i b bm q hv
   cases hk:qC h0 al b with
   |false=>simp[hk]at hs
   |true=>
    simp only[hk,cond_true]at hs
    split at hs
    ·rename_i sz cU xs fR
     cases cS:(Jq bm cU&&Eap (q+n) (xs.flatMap AVal.flat).length)with
     |false=>rw[cS]at hs;cases hs
     |true=>
      rw[cS]at hs
      simp only[cond_true]at hs
      simp only[Jn]at cS
      obtain rfl:=En cS.1
      have hl:=Yk cS.2
      cases ag with
      |true=>
       simp only[cond_true]at hs
       obtain rfl:=qw hs
       exact q9 m e (XO m e.bJ ho hg hn hy hv fR hl (.inl ⟨rfl,rfl⟩))
      |false=>
       simp only[cond_false]at hs
       split at hs
       ·rename_i z hz
        obtain rfl:=qw hs
        exact q9 m e (XO m e.bJ ho hg hn hy hv fR hl (.inr ⟨rfl,hz⟩))
       ·cases hs
    ·cases hs
  ·cases hs
 by_cases hx:∃g,x=.global g
 ·obtain⟨g,rfl⟩:=hx
  exact q46 m e ho hc hs
 have hc:(match zn P t,jc P t,qt x with
  |some Ec,I 1,I x=>if(dst.map (h.takes.contains ·)).getD Ec then I (cc.bS ((dst.bind fun d=>h.bA.find? fun y=>y.1 == d).map (·.2)) x)else I (bif (dst.map (h.vl.contains ·)).getD Ec then .eI Ec 1 x else .load Ec 1 x)
  |some Ek,I n,I x=>I (bif (dst.map (h.vl.contains ·)).getD Ec then .eI Ek n x else .load Ek n x)
  |_,_,_=>Eb)=I b3:=by
  cases x with
  |global g=>exact absurd ⟨g,rfl⟩ hx
  |_=>exact hc
 split at hc
 ·rename_i y hg hn hy
  split at hc
  ·cases hc
   simp only[qb,qp]at hs
   split at hs
   ·rename_i b q hv
    generalize (jm h0 al b&&qD _ q)=kk at hs
    cases kk with
    |false=>simp at hs
    |true=>
     simp only[cond_true]at hs
     split at hs
     ·rename_i cs hcs
      split at hs
      ·rename_i v ow hq
       split at hs
       ·rename_i h' aZ
        cases hs
        exact .inl (qyu m e ho hg hy hv hcs hq aZ)
       ·cases hs
      ·cases hs
     ·cases hs
   ·cases hs
  ·cases hc
   generalize (dst.map (h.vl.contains ·)).getD Ec=bb at hs
   cases bb with
   |false=>exact key hg hn (fun _=>rfl) hy hs
   |true=>exact key hg hn (fun _=>rfl) hy (XW hs)
 ·rename_i n y hg hn hy
  cases hc
  generalize (dst.map (h.vl.contains ·)).getD Ec=bb at hs
  cases bb with
  |false=>exact key hg hn (by simp) hy hs
  |true=>exact key hg hn (by simp) hy (XW hs)
 ·cases hc
theorem q56 (m:aq P C ω w0 C0 hp w)(e:ai C ω w w0.heap.size env a.tmps){t:TypeId}{x y}(ho:o.op=.store t x y)(lI:b3.gq=Eb)(hc:cf P h md r dst (.store t x y)=I b3)(hs:qb p xc h0 al env hp b3=I res):zi P C C0 w0 a d env o w res:=by
 simp only[cf]at hc
 split at hc
 ·rename_i n x' y' hn h1 h2
  cases kM:Hg h x' with
  |some s=>rw[kM]at hc;simp only[I.injEq]at hc;subst hc;simp[cc.gq]at lI
  |none=>
  rw[kM]at hc
  simp only[I.injEq]at hc
  subst hc
  simp only[qb,qp]at hs
  split at hs
  ·rename_i b q v e1 e2
   cases hk:jm h0 al b with
   |false=>simp[hk]at hs
   |true=>
    simp only[hk,cond_true]at hs
    split at hs
    ·rename_i cs hcs
     split at hs
     ·rename_i s cn
      cases hb:(Jq n 1&&v.b6&&Ebf q cs.length)with
      |false=>simp[hb]at hs
      |true=>
       simp only[hb,cond_true]at hs
       simp only[Jn]at hb
       obtain⟨⟨jU,iK⟩,Du⟩:=hb
       obtain rfl:=En jU
       split at hs
       ·rename_i h' aZ
        cases hs
        exact .inr (.inl (qwj m e ho hn h1 h2 e1 e2 hcs iK (Eba.mp Du) cn aZ))
       ·cases hs
     ·cases hb:Jq v.flat.length n with
      |false=>simp[hb]at hs
      |true=>
       simp only[hb,cond_true]at hs
       split at hs
       ·rename_i dV bH
        split at hs
        ·rename_i h' aZ
         obtain rfl:=qw hs
         exact .inr (.inl (q40 m e ho hn h1 h2 e1 e2 hcs (En hb) bH aZ))
        ·cases hs
       ·cases hs
    ·cases hs
  ·cases hs
 ·cases hc
theorem q5x {P}{t:TypeId}{e:TypeId}(h:NC P t=I e):∃sz,zq P t=I [.bC,.list Ek sz []]:=by
 unfold NC at h
 split at h
 ·split at h
  ·split at h
   ·split at h
    ·rename_i sz h1 h2
     exact⟨_,h2⟩
    ·cases h
   ·cases h
  ·cases h
 ·cases h
theorem q51 (m:aq P C ω w0 C0 hp w)(e:ai C ω w w0.heap.size env a.tmps){t:TypeId}(ho:o.op=.alloc t)(hc:cf P h md r dst (.alloc t)=I b3)(hs:qb p xc h0 al env hp b3=I res):zi P C C0 w0 a d env o w res:=by
 simp only[cf]at hc
 split at hc
 ·rename_i e' he
  cases hc
  obtain⟨sz,hz⟩:=q5x he
  simp only[qb,qp]at hs
  split at hs
  ·rename_i h' hn
   obtain rfl:=qw hs
   exact .inl (jey m e ho hz hn)
  ·cases hs
 generalize (dst.map (h.vl.contains ·)).getD Ec=bb at hc
 cases bb with
 |true=>
  simp only[cond_true]at hc
  split at hc
  ·rename_i z hz
   cases hb:z.all qk with
   |false=>rw[hb]at hc;cases hc
   |true=>
    rw[hb]at hc
    simp only[cond_true,I.injEq]at hc
    subst hc
    simp only[qb,qo,I.injEq]at hs
    subst hs
    exact .inl (q15 m e ho hz)
  ·cases hc
 |false=>
 simp only[cond_false]at hc
 obtain⟨z,hz,rfl⟩:=Ea.1 hc
 simp only[qb,qp]at hs
 cases hb:z.all qk with
 |false=>simp[hb]at hs
 |true=>
  simp only[hb,cond_true]at hs
  split at hs
  ·rename_i h' hn
   obtain rfl:=qw hs
   exact .inl (q48 m e ho hz (by simpa using hb) hn)
  ·cases hs
theorem jev (m:aq P C ω w0 C0 hp w)(e:ai C ω w w0.heap.size env a.tmps){t:TypeId}{x}(ho:o.op=.box t x)(hc:cf P h md r dst (.box t x)=I b3)(hs:qb p xc h0 al env hp b3=I res):zi P C C0 w0 a d env o w res:=by
 simp only[cf]at hc
 split at hc
 ·rename_i n x' hn h1
  cases hc
  generalize (dst.map (h.vl.contains ·)).getD Ec=bb at hs
  cases bb with
  |true=>
   simp only[cond_true,qb,qo]at hs
   split at hs
   ·rename_i v hv
    cases hb:(Jq v.flat.length n&&v.flat.all qk)with
    |false=>simp[hb]at hs
    |true=>
     simp only[hb,cond_true]at hs
     simp only[Jn]at hb
     obtain rfl:=qw hs
     exact .inl (jbq m e ho h1 hv hb.2)
   ·cases hs
  |false=>
   simp only[cond_false]at hs
   simp only[qb,qp]at hs
   split at hs
   ·rename_i v hv
    cases hb:(Jq v.flat.length n&&v.flat.all qk)with
    |false=>simp[hb]at hs
    |true=>
     simp only[hb,cond_true]at hs
     simp only[Jn]at hb
     split at hs
     ·rename_i h' qO
      obtain rfl:=qw hs
      exact .inl (jd0 m e ho h1 hv hb.2 qO)
     ·cases hs
   ·cases hs
 ·cases hc
theorem qzq (m:aq P C ω w0 C0 hp w)(e:ai C ω w w0.heap.size env a.tmps){i x}(ho:o.op=.extract x i)(hc:cf P h md r dst (.extract x i)=I b3)(hs:qb p xc h0 al env hp b3=I res):zi P C C0 w0 a d env o w res:=by
 simp only[cf]at hc
 obtain⟨y,hy,rfl⟩:=Ea.1 hc
 simp only[qb,qo]at hs
 split at hs
 ·rename_i vs hv
  obtain⟨u,hu,rfl⟩:=qN hs
  exact q9 m e (qz7 e.bJ ho hy hv hu)
 ·cases hs
theorem qxi (m:aq P C ω w0 C0 hp w)(e:ai C ω w w0.heap.size env a.tmps){f xs ys}(ho:o.op=.makeFunc f xs ys)(hc:cf P h md r dst (.makeFunc f xs ys)=I b3)(hs:qb p xc h0 al env hp b3=I res):zi P C C0 w0 a d env o w res:=by
 simp only[cf]at hc
 split at hc
 ·split at hc
  ·rename_i k fh mf h1 h2
   cases hc
   simp only[qb,qo]at hs
   split at hs
   ·rename_i us vs e1 e2
    obtain rfl:=qw hs
    exact q9 m e (q2f e.bJ ho h1 h2 e1 e2)
   ·cases hs
  ·cases hc
 ·cases hc
theorem qzs (m:aq P C ω w0 C0 hp w)(e:ai C ω w w0.heap.size env a.tmps){t:TypeId}{x}(ho:o.op=.makeMap t x)(hc:cf P h md r dst (.makeMap t x)=I b3)(hs:qb p xc h0 al env hp b3=I res):zi P C C0 w0 a d env o w res:=by
 cases x with
 |some x=>simp[cf]at hc
 |none=>
  simp only[cf]at hc
  split at hc
  ·cases hc
   simp only[qb,qp]at hs
   split at hs
   ·rename_i h' hn
    obtain rfl:=qw hs
    exact .inl (q7e m e ho hn)
   ·cases hs
  ·cases hc
theorem q5a (m:aq P C ω w0 C0 hp w)(e:ai C ω w w0.heap.size env a.tmps){t:TypeId}{x}(ho:o.op=.range t x)(hc:cf P h md r dst (.range t x)=I b3)(hs:qb p xc h0 al env hp b3=I res):zi P C C0 w0 a d env o w res:=by
 simp only[cf]at hc
 split at hc
 ·rename_i ht
  obtain⟨y,hy,rfl⟩:=Ea.1 hc
  simp only[qb,qp]at hs
  split at hs
  ·rename_i s hv
   split at hs
   ·rename_i h' hn
    obtain rfl:=qw hs
    exact .inl (q4j m e ho ht hy hv hn)
   ·cases hs
  ·cases hs
 ·cases hc
theorem q71 (m:aq P C ω w0 C0 hp w)(e:ai C ω w w0.heap.size env a.tmps){x b}(ho:o.op=.next x b)(hc:cf P h md r dst (.next x b)=I b3)(hs:qb p xc h0 al env hp b3=I res):zi P C C0 w0 a d env o w res:=by
 cases b with
 |false=>simp[cf]at hc
 |true=>
  simp only[cf]at hc
  obtain⟨y,hy,rfl⟩:=Ea.1 hc
  simp only[qb,qp]at hs
  split at hs
  ·rename_i b hv
   cases hk:jm h0 al b with
   |false=>simp[hk]at hs
   |true=>
    simp only[hk,cond_true]at hs
    split at hs
    ·rename_i s pos hb
     obtain⟨k1,k2⟩:=q58 (d:=d) m e ho hy hv hb
     cases hp:Ebf pos s.length with
     |true=>
      simp only[hp,cond_true]at hs
      split at hs
      ·rename_i h' aZ
       obtain rfl:=qw hs
       exact .inl (k1 (Eba.mp hp) h' aZ)
      ·cases hs
     |false=>
      simp only[hp,cond_false]at hs
      obtain rfl:=qw hs
      exact .inl (k2 (fun h=>by rw[Eba.mpr h]at hp;cases hp))
    ·cases hs
  ·cases hs
theorem q4g (m:aq P C ω w0 C0 hp w)(e:ai C ω w w0.heap.size env a.tmps){t:TypeId}{x y ok}(ho:o.op=.lookup t x y ok)(hc:cf P h md r dst (.lookup t x y ok)=I b3)(hs:qb p xc h0 al env hp b3=I res):zi P C C0 w0 a d env o w res:=by
 simp only[cf]at hc
 split at hc
 ·rename_i kt el ht
  split at hc
  ·rename_i kd z x' y' gN hz h1 h2
   cases hc
   simp only[qb,zm]at hs
   split at hs
   ·rename_i b kv e1 e2
    cases hk:jm h0 al b with
    |false=>simp[hk]at hs
    |true=>
     simp only[hk,cond_true]at hs
     split at hs
     ·rename_i es hb
      split at hs
      ·rename_i i v hf
       obtain rfl:=qw hs
       exact q9 m e (Ot m e ho ht gN hz h1 h2 e1 e2 (.inr ⟨b,es,rfl,hb,hf⟩))
      ·rename_i hf
       obtain rfl:=qw hs
       exact q9 m e (Ot m e ho ht gN hz h1 h2 e1 e2 (.inr ⟨b,es,rfl,hb,hf⟩))
      ·cases hs
     ·cases hs
   ·rename_i kv e1 e2
    obtain rfl:=qw hs
    exact q9 m e (Ot m e ho ht gN hz h1 h2 e1 e2 (.inl ⟨rfl,rfl⟩))
   ·cases hs
  ·cases hc
 ·cases hc
theorem XZ (m:aq P C ω w0 C0 hp w)(e:ai C ω w w0.heap.size env a.tmps){t:TypeId}{x y z}(ho:o.op=.mapUpdate t x y z∨o.op=.insert t x y z)(hc:cf P h md r dst (.mapUpdate t x y z)=I b3)(hs:qb p xc h0 al env hp b3=I res):zi P C C0 w0 a d env o w res:=by
 simp only[cf]at hc
 split at hc
 ·rename_i kt el ht
  split at hc
  ·rename_i kd x' y' z' gN h1 h2 h3
   cases hc
   simp only[qb,qp]at hs
   split at hs
   ·rename_i b kv v e1 e2 e3
    cases hk:jm h0 al b with
    |false=>simp[hk]at hs
    |true=>
     simp only[hk,cond_true]at hs
     split at hs
     ·rename_i es hb
      split at hs
      ·rename_i i u hf
       split at hs
       ·rename_i h' aZ
        obtain rfl:=qw hs
        exact .inr (.inl (XT m e ho ht gN h1 h2 h3 e1 e2 e3 hb (.inl ⟨i,u,hf,aZ⟩)))
       ·cases hs
      ·rename_i hf
       cases hl:Eap es.length 1073741824 with
       |false=>simp[hl]at hs
       |true=>
        simp only[hl,cond_true]at hs
        split at hs
        ·rename_i h' aZ
         obtain rfl:=qw hs
         exact .inr (.inl (XT m e ho ht gN h1 h2 h3 e1 e2 e3 hb (.inr ⟨hf,aZ⟩)))
        ·cases hs
      ·cases hs
     ·cases hs
   ·cases hs
  ·cases hc
 ·cases hc
end
section
variable {P:Program}{p:jg}{xc:XC}{C C0:az}{ω:Nat→Option Loc}{w w0:World}{hp:ql}{env:Env}{a:Act}{o:Oper}{d:Loc}{h:qj}{md:dA}{r h0:Nat}{dst:Option Nat}{al:Option (List Nat)}{b3:cc}{res:aK}
theorem yt (w:World){d}{t:TypeId}{x y b}{u:TypeDesc}(h:(∃e,u=.slice e∧y=.slice Eb 0 0∧∃q l c,x=.slice q l c∧b=q.isNone)∨(∃e,u=.pointer e∧y=.pointer Eb∧∃q,x=.pointer q∧b=q.isNone) ∨
  (∃k e,u=.map k e∧y=.map Eb∧∃q,x=.map q∧b=q.isNone)∨(∃k e v,u=.func k e v∧y=.nilFunc∧((x=.nilFunc∧b=Ek)∨∃f i j,x=.func f i j∧b=Ec))) (ht:P.underlying t=I u):
  (Op.equalIn (d+1) t x y).run P w=.ok b w:=by
 rcases h with⟨e,rfl,rfl,q,l,c,rfl,rfl⟩|⟨e,rfl,rfl,q,rfl,rfl⟩|⟨k,e,rfl,rfl,q,rfl,rfl⟩|⟨k,e,v,rfl,rfl,⟨rfl,rfl⟩|⟨f,i,j,rfl,rfl⟩⟩
 ·cases q<;>simp[Op.equalIn,run_underlying ht]
 ·cases q<;>simp[Op.equalIn,run_underlying ht]
 ·cases q<;>simp[Op.equalIn,run_underlying ht]
 ·simp[Op.equalIn,run_underlying ht]
 ·simp[Op.equalIn,run_underlying ht]
theorem qP (m:aq P C ω w0 C0 hp w)(e:ai C ω w w0.heap.size env a.tmps){op}{t u:TypeId}{x y neq b c}(ho:o.op=.binOp op t x y u)(hop:op=if neq then .neq else .eql)(hy:a.eval y=c)
  (aS:(∀k n,a.eval x≠.int k n)∧(∀s,a.eval x≠.string s)∧(∀k n,a.eval x≠.float k n)∧(∀k n m,a.eval x≠.complex k n m)) (cz:∀cs,a.eval x≠.agg cs) (uZ:a.eval x≠.nilIface)
  (hq:(Op.equal t (a.eval x) c).run P w=.ok b w) {z} (hz:z=bif neq then !b else b):zi P C C0 w0 a d env o w ⟨.bool z,Ec,Eb,hp⟩:=by
 subst hz
 exact q9 m e (q57 ho hop hy aS cz uZ hq)
theorem HG (m:aq P C ω w0 C0 hp w)(e:ai C ω w w0.heap.size env a.tmps){op}{t u:TypeId}{x y y' neq k c}(ho:o.op=.binOp op t x y u)(hop:op=if neq then .neq else .eql)(hx:qt x=I y')(hy:y=.const c)
  (hk:(k=0∧(∃el,P.underlying t=I (.slice el))∧c=.slice Eb 0 0)∨(k=1∧(∃el,P.underlying t=I (.pointer el))∧c=.pointer Eb)∨(k=2∧(∃k v,P.underlying t=I (.map k v))∧c=.map Eb)∨(k=3∧(∃a b c,P.underlying t=I (.func a b c))∧c=.nilFunc))
  (hs:qb p xc h0 al env hp (.eJ k neq y')=I res):zi P C C0 w0 a d env o w res:=by
 have nI:a.eval y=c:=by subst hy;simp[Act.eval]
 rcases hk with⟨rfl,⟨el,ht⟩,rfl⟩|⟨rfl,⟨el,ht⟩,rfl⟩|⟨rfl,⟨k,el,ht⟩,rfl⟩|⟨rfl,⟨k,el,q,ht⟩,rfl⟩
 ·simp only[qb,qo]at hs
  split at hs<;>first|(exfalso;omega)|skip
  ·rename_i n sz xs _ hv
   obtain rfl:=qw hs
   rcases(qu e.bJ hx hv).cu with⟨rfl,rfl,h1⟩|⟨h1,r,q,cap,h2,_⟩|⟨h1,_,ad,_,h2⟩
   ·exact qP m e ho hop nI (by simp[h1]) (by simp[h1]) (by simp[h1]) (b:=true) (by rw[h1];exact yt w (d:=9999) (by simp) ht) (by cases neq<;>rfl)
   all_goals
    subst h1
    exact qP m e ho hop nI (by simp[h2]) (by simp[h2]) (by simp[h2]) (b:=false) (by rw[h2];exact yt w (d:=9999) (by simp) ht) (by cases neq<;>rfl)
  ·rename_i b q n _ hv
   obtain rfl:=qw hs
   have hr:=qu e.bJ hx hv
   generalize h2:a.eval x=ev at hr
   cases hr with
   |ms b o len r cap hb hl=>
    exact qP m e ho hop nI (by simp[h2]) (by simp[h2]) (by simp[h2]) (b:=false) (by rw[h2];exact yt w (d:=9999) (by simp) ht) (by cases neq<;>rfl)
  ·cases hs
 ·simp only[qb,qo]at hs
  split at hs<;>first|(exfalso;omega)|skip
  ·rename_i _ hv
   obtain rfl:=qw hs
   have hr:=qu e.bJ hx hv
   generalize h2:a.eval x=ev at hr
   cases hr
   exact qP m e ho hop nI (by simp[h2]) (by simp[h2]) (by simp[h2]) (b:=true) (by rw[h2];exact yt w (d:=9999) (by simp) ht) (by cases neq<;>rfl)
  ·rename_i _ hv
   obtain rfl:=qw hs
   obtain⟨r,hr,h2⟩:=(qu e.bJ hx hv).cI
   exact qP m e ho hop nI (by simp[h2]) (by simp[h2]) (by simp[h2]) (b:=false) (by rw[h2];exact yt w (d:=9999) (by simp) ht) (by cases neq<;>rfl)
  ·rename_i _ hv
   obtain rfl:=qw hs
   obtain⟨r,q,h2,_⟩:=(qu e.bJ hx hv).ec
   exact qP m e ho hop nI (by simp[h2]) (by simp[h2]) (by simp[h2]) (b:=false) (by rw[h2];exact yt w (d:=9999) (by simp) ht) (by cases neq<;>rfl)
  ·cases hs
 ·simp only[qb,qo]at hs
  split at hs<;>first|(exfalso;omega)|skip
  ·rename_i _ hv
   obtain rfl:=qw hs
   have hr:=qu e.bJ hx hv
   generalize h2:a.eval x=ev at hr
   cases hr
   exact qP m e ho hop nI (by simp[h2]) (by simp[h2]) (by simp[h2]) (b:=true) (by rw[h2];exact yt w (d:=9999) (by simp) ht) (by cases neq<;>rfl)
  ·rename_i _ hv
   obtain rfl:=qw hs
   have hr:=qu e.bJ hx hv
   generalize h2:a.eval x=ev at hr
   cases hr
   exact qP m e ho hop nI (by simp[h2]) (by simp[h2]) (by simp[h2]) (b:=false) (by rw[h2];exact yt w (d:=9999) (by simp) ht) (by cases neq<;>rfl)
  ·cases hs
 ·simp only[qb,qo]at hs
  split at hs<;>first|(exfalso;omega)|skip
  ·rename_i _ hv
   obtain rfl:=qw hs
   have hr:=qu e.bJ hx hv
   generalize h2:a.eval x=ev at hr
   cases hr
   exact qP m e ho hop nI (by simp[h2]) (by simp[h2]) (by simp[h2]) (b:=true) (by rw[h2];exact yt w (d:=9999) (by simp) ht) (by cases neq<;>rfl)
  ·rename_i _ hv
   obtain rfl:=qw hs
   have hr:=qu e.bJ hx hv
   generalize h2:a.eval x=ev at hr
   cases hr
   exact qP m e ho hop nI (by simp[h2]) (by simp[h2]) (by simp[h2]) (b:=false) (by rw[h2];exact yt w (d:=9999) (by simp) ht) (by cases neq<;>rfl)
  ·cases hs
theorem Ox (m:aq P C ω w0 C0 hp w)(e:ai C ω w w0.heap.size env a.tmps){op}{t u:TypeId}{x y x' y'}(ho:o.op=.binOp op t x y u)(h1:qt x=I x')(h2:qt y=I y')(hs:qb p xc h0 al env hp (.bin op x' y')=I res):zi P C C0 w0 a d env o w res:=by
 simp only[qb,qo]at hs
 split at hs
 ·rename_i u v e1 e2
  obtain⟨z,hz,rfl⟩:=qN hs
  exact q9 m e (jfb e.bJ ho h1 h2 e1 e2 hz)
 ·cases hs
theorem X0 (m:aq P C ω w0 C0 hp w)(e:ai C ω w w0.heap.size env a.tmps){op}{t u:TypeId}{x y neq}(ho:o.op=.binOp op t x y u)(hop:op=if neq then .neq else .eql)(hc:AY P op neq t x y=I b3)(hs:qb p xc h0 al env hp b3=I res):zi P C C0 w0 a d env o w res:=by
 have dl:AY P op neq t x y=I b3:=hc
 unfold AY at dl
 have eqs:∀ {ks:List Kd} {x' y':jd},zn P t=I Ek→P.eqGuardType P.depth t=Ec→qF P He t=I ks→qt x=I x'→qt y=I y'→qb p xc h0 al env hp (.eqs ks neq x' y')=I res→zi P C C0 w0 a d env o w res:=by
  intro ks x' y' cz hg hk h1 h2 hs
  simp only[qb,qo]at hs
  split at hs
  ·rename_i u v e1 e2
   cases hb:(Jq u.length ks.length&&Jq v.length ks.length)with
   |false=>simp[hb]at hs
   |true=>
    simp only[hb,cond_true]at hs
    simp only[Jn]at hb
    split at hs
    ·rename_i b hq
     obtain rfl:=qw hs
     exact q9 m e (jfa e.bJ ho hop h1 h2 e1 e2 hg hk cz (En hb.1) (En hb.2) hq)
    ·cases hs
  ·cases hs
 split at dl
 ·split at dl
  ·rename_i h1 h2;cases dl;exact Ox m e ho h1 h2 hs
  ·cases dl
 ·split at dl
  ·rename_i h1 h2;cases dl;exact Ox m e ho h1 h2 hs
  ·cases dl
 ·rename_i ht
  split at dl
  ·rename_i h1 h2
   cases dl
   simp only[qb,qo]at hs
   split at hs
   ·rename_i u v e1 e2
    obtain rfl:=qw hs
    exact q9 m e (jdx e.bJ ho hop h1 h2 e1 e2 ht)
   ·cases hs
  ·cases dl
 ·rename_i fs ht
  split at dl
  ·rename_i hg
   split at dl
   ·rename_i ks x' y' hk h1 h2;cases dl;exact eqs (by simp[zn,ht]) (by simpa using hg) hk h1 h2 hs
   ·cases dl
  ·cases dl
 ·rename_i fs _ ht
  split at dl
  ·rename_i hg
   split at dl
   ·rename_i ks x' y' hk h1 h2;cases dl;exact eqs (by simp[zn,ht]) (by simpa using hg) hk h1 h2 hs
   ·cases dl
  ·cases dl
 ·rename_i el ht
  split at dl
  ·obtain⟨x',hx,rfl⟩:=Ea.1 dl
   exact HG m e ho hop hx rfl (.inl ⟨rfl,⟨el,ht⟩,rfl⟩) hs
  ·cases dl
 ·rename_i el ht
  split at dl
  ·obtain⟨x',hx,rfl⟩:=Ea.1 dl
   exact HG m e ho hop hx rfl (.inr (.inl ⟨rfl,⟨el,ht⟩,rfl⟩)) hs
  ·cases dl
 ·rename_i el _ ht
  split at dl
  ·obtain⟨x',hx,rfl⟩:=Ea.1 dl
   exact HG m e ho hop hx rfl (.inr (.inr (.inl ⟨rfl,⟨_,_,ht⟩,rfl⟩))) hs
  ·cases dl
 ·rename_i el _ _ ht
  split at dl
  ·obtain⟨x',hx,rfl⟩:=Ea.1 dl
   exact HG m e ho hop hx rfl (.inr (.inr (.inr ⟨rfl,⟨_,_,_,ht⟩,rfl⟩))) hs
  ·cases dl
 ·cases dl
theorem jdm (m:aq P C ω w0 C0 hp w)(e:ai C ω w w0.heap.size env a.tmps){op}{t u:TypeId}{x y}(ho:o.op=.binOp op t x y u)(hc:cf P h md r dst (.binOp op t x y u)=I b3)(hs:qb p xc h0 al env hp b3=I res):zi P C C0 w0 a d env o w res:=by
 simp only[cf]at hc
 unfold NE at hc
 split at hc
 ·exact X0 (neq:=false) m e ho rfl hc hs
 ·exact X0 (neq:=true) m e ho rfl hc hs
 ·split at hc
  ·rename_i h1 h2;cases hc;exact Ox m e ho h1 h2 hs
  ·cases hc
end
end Go.Abs
