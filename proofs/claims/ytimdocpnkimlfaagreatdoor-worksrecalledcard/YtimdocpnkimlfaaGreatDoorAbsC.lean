/- Operations that make a new slice. -/
import Derived.Test.YtimdocpnkimlfaaGreatDoorAbsA
set_option linter.unusedVariables false
set_option linter.unusedSimpArgs false
open Option renaming some→I,map_eq_some_iff→En,none→E3,isSome_none→Jo,isSome_iff_exists→Lg
open Bool renaming false→Ga,true→Gc,and_eq_true→Gw,false_eq_true→G9,or_false→Sn
open Nat renaming eq_of_beq_eq_true→Gd,le_refl→Gm,mul_le_mul_right→Gv,beq→Gz,le_trans→Hd,add_mul→Jt,le_of_ble_eq_true→Jy,mul_le_mul→J9,beq_refl→R0,mul_eq_zero→R1,ble→R8,succ_mul→Sd,add_zero→Se,zero_add→Sg,blt_eq→Sk,blt→Tt
open List renaming replicate→Gg,getElem?_append_left→Gh,getElem?_eq_some_iff→Gi,getElem?_append_right→Gl,getElem?_eq_getElem→Gq,getElem?_toArray→Gr,getElem?_set_self→G7,getElem?_take_of_lt→Ha,mem_of_getElem?→Hb,append_assoc→If,getElem?_set_ne→Ih,replicate_succ→Iy,mem_replicate→Jn,mem_append→Jp,getElem?_map→Jq,getElem?_eq_none→Jr,flatMap_cons→Js,length_set→Lf,length_append→Li,getElem?_cons_zero→Lk,getElem?_cons_succ→Ln,flatten_cons→Lp,size_toArray→Lr,mem_of_mem_take→Lu,getElem?_of_mem→Nj,nil_append→Nx,getElem?_drop→Ny,ext_getElem?→Nz,all_eq_true→N9,mem_flatten→Oa,mem_map→Ob,mem_cons_of_mem→R7,flatMap_append→R9,getElem?_take→Sb,mem_cons_self→Sc,set_set→Sf,getElem?_set→Sh,length_take→Si,length_map→Sj,mem_cons→Sm,take→St,map_cons→Ts
open Array renaming getElem?_toList→Gp,getD_eq_getD_getElem?→Gs,getElem?_eq_some_iff→Gx,ext'→G6,range→G8,getElem?_append_left→Hc,size_append→N8
open Ne renaming symm→N7
namespace Go.Abs
section
variable {P:Program}{C C0:aI}{ω:Nat→Option Loc}{w w0:World}{hp:qh}{env:Env}{a:Act}{o:Oper}{tmps:Array Value}{d:Loc}
theorem aq.strip {B}(e:aq C ω w B env tmps)(s:Option Nat):aq C ω w B (yc env s) tmps:=by
 cases s with
 |none=>exact e
 |some s=>
  simp only[yc]
  split
  ·rename_i v o hl
   intro t x hx
   simp only[jj]at hx
   cases hb:Gz s t with
   |false=>rw[hb]at hx;simp at hx;exact e t x hx
   |true=>
    rw[hb]at hx
    simp at hx
    subst hx
    obtain rfl:=Gd hb
    obtain⟨u,h1,h2,_⟩:=e s _ hl
    exact⟨u,h1,h2,by simp⟩
  ·exact e
theorem q1z (m:az P C ω w0 C0 hp w)(e:aq C ω w w0.heap.size env tmps){x v}(h:bP C x v):zo P C0 w0 C tmps d env ⟨x,Ga,E3,hp⟩ v w:=
 ⟨C,ω,aI.le_refl C,m,e,h,by simp⟩
theorem K3 (m:az P C ω w0 C0 hp w)(e:aq C ω w w0.heap.size env tmps)(cells:Array Value)(t:TypeId)(xs:List AVal)(sz cap:Nat)(vs:List Value)(hr:aS C (xs.flatMap AVal.flat) vs)
  (hv:∀(j:Nat) v,vs[j]?=I v→cells[j]?=I v) (h1:∀v∈vs,v.oneCell'=Gc) (hs:∀x∈xs,x.flat.length=sz) (hcap:xs.length≤cap) (cA:cap*sz≤cells.size) (s:Option Nat):
  zo P C0 w0 C tmps d env ⟨.list Ga sz xs,Gc,s,hp⟩ (.slice (I ⟨w.heap.size,0,E3⟩) xs.length cap) (w.alloc (.cells cells t)):=by
 have hn:∀o,C.K w.heap.size o=E3:=m.jR _ (Gm _)
 have hx:Ext w (w.alloc (.cells cells t)):=Ext.alloc w _ (fun c t fr h=>by cases h;rfl)
 have m1:=(m.newRow cells t vs hv h1)
 have QW:∀ℓ x v,aJ C ω w w0.heap.size ℓ x v→aJ (C.put w.heap.size 0 vs) (cI ω w.heap.size d) (w.alloc (.cells cells t)) w0.heap.size ℓ x v:=fun ℓ x v ho=>((ho.fresh (Gm _)).put vs (.inl (Gm _))).ext hx
 have hle:=aI.gE (C:=C) (off:=0) vs (fun o _=>hn o)
 have hcells:=aI.fg (C:=C) (off:=0) (fun o _=>hn o) hr
 have hl:vs.length=xs.length*sz:=by rw[hr.length,ym xs hs]
 refine⟨C.put w.heap.size 0 vs,cI ω w.heap.size d,hle,?_,?_,?_,?_⟩
 ·exact { m1 with box:=fun b x r fh hb=>((m.box b x r fh hb).mono hle fun j y v ho=>(ho.fresh (Gm _)).put vs (.inl (Gm _))).ext hx }
 ·refine aq.strip ?_ s
  exact fun t x hx=>let ⟨v,h1,h2,h3⟩:=e t x hx; ⟨v,h1,aB.mono hle h2,fun h=>QW _ _ _ (h3 h)⟩
 ·exact .list _ _ _ _ _ hcap (bu.eO hcells hs)
 ·intro _
  refine⟨by simp[cI],.inl m.size,?_,rfl,rfl,⟨cells,t,by rw[wx,if_pos rfl],by simpa using cA,eP.sized hs⟩,?_⟩
  ·intro b hb
   have:=(m.lt b _ hb).1
   simp at this
  ·intro o ho
   simp only[aI.put]
   rw[if_neg (by simp at ho;omega)]
   exact hn o
theorem K4 {zs:List Value}{sz}(hz:zs.length=sz)(hs:0<sz):∀(n:Nat),(List.range (n*sz)).map (fun i=>zs.toArray[i % zs.toArray.size]!)=(Gg n zs).flatten
 |0=>by simp
 |n+1=>by
  rw[Sd,List.range_add,List.map_append,K4 hz hs n,List.replicate_succ',List.flatten_append]
  congr 1
  simp only[List.map_map,Lp,List.flatten_nil,List.append_nil]
  apply Nz
  intro j
  rw[Jq]
  by_cases hj:j<sz
  ·rw[List.getElem?_range hj]
   simp only[Option.map_some,Function.comp,Lr,hz]
   rw[Nat.mul_add_mod_self_right,Nat.mod_eq_of_lt hj]
   rw[Gq (by omega),getElem!_pos _ _ (by simpa[hz]using hj)]
   simp
  ·rw[Jr (by simpa using hj),Jr (by omega)]
   rfl
theorem aS.replicate {zs vs}(h:aS C zs vs):∀n:Nat,aS C (Gg n zs).flatten (Gg n vs).flatten
 |0=>.nil
 |n+1=>by
  rw[Iy,Iy,Lp,Lp]
  exact aS.append h (aS.replicate h n)
def vg (sz:Nat)(zero:List AVal):AVal:=bif Gz sz 1 then zero.headD .undef else .agg zero
theorem QX {sz zero}(hz:zero.length=sz)(hs:∀z∈zero,z.isAgg=Ga):(vg sz zero).flat=zero:=by
 unfold vg
 cases hb:Gz sz 1 with
 |false=>rfl
 |true=>
  obtain rfl:=Gd hb
  obtain⟨z,rfl⟩:=List.length_eq_one_iff.1 hz
  exact qby (hs z (by simp))
theorem qmf {sz zero}(hz:zero.length=sz)(hs:∀z∈zero,z.isAgg=Ga)(n:Nat):(Gg n (vg sz zero)).flatMap AVal.flat=(Gg n zero).flatten:=by
 induction n with
 |zero=>rfl
 |succ n ih=>rw[Iy,Js,QX hz hs,ih,Iy,Lp]
theorem q0m {v x}(h:Ds v=I x):qk x=Gc∧v.oneCell'=Gc:=by
 unfold Ds at h
 split at h<;>first|cases h|skip
 all_goals exact⟨rfl,rfl⟩
theorem qmh:∀ {vs:List Value} {xs:List AVal},wv vs=I xs→(∀x∈xs,qk x=Gc)∧∀v∈vs,v.oneCell'=Gc
 | [],xs,h=>by simp[wv]at h;subst h;simp
 |v::vs,xs,h=>by
  simp only[wv]at h
  split at h
  ·rename_i x hx
   split at h
   ·rename_i ys ng
    cases h
    obtain⟨h1,h2⟩:=q0m hx
    obtain⟨h3,h4⟩:=qmh ng
    exact⟨by simpa using⟨h1,h3⟩,by simpa using⟨h2,h4⟩⟩
   ·cases h
  ·cases h
theorem qlr {x}(h:qk x=Gc):x.isAgg=Ga:=by cases x<;>simp[qk,AVal.isAgg]at *
theorem vh {t:TypeId}{z}(h:yr P t=I z):(∀x∈z,qk x=Gc)∧∃v,(∀w,(zeroValue t).run P w=.ok v w)∧aS C z v.cells.toList∧∀u∈v.cells.toList,u.oneCell'=Gc:=by
 unfold yr at h
 split at h
 ·rename_i i hi
  split at h
  ·rename_i v hv
   obtain⟨h1,h2⟩:=qmh h
   exact⟨h1,v,fun w=>by simp[zeroValue,typeInfo,hi,hv],KT C h,h2⟩
  ·cases h
 ·cases h
theorem QY {x v}(h:bP C x v)(hs:qk x=Gc):v.oneCell'=Gc:=by
 cases h<;>first|rfl|(simp[qk]at hs)
theorem Av {xs}:∀ {vs:List Value},aS C xs vs→(∀x∈xs,qk x=Gc)→∀v∈vs,v.oneCell'=Gc:=by
 induction xs with
 |nil=>intro vs h _ v hv;cases h;cases hv
 |cons x xs ih=>
  intro vs h hs v hv
  cases h with
  |cons _ _ u us hx h=>
   rcases Sm.1 hv with rfl|hv
   ·exact QY hx (hs x (by simp))
   ·exact ih h (fun y hy=>hs y (by simp[hy])) v hv
theorem qzp:∀ (qs:List (Nat×List AVal)) (xs ys:List AVal),jQ xs qs=I ys→(∀x∈xs,qk x=Gc)→(∀q∈qs,∀x∈q.2,qk x=Gc)→∀y∈ys,qk y=Gc
 | [],xs,ys,h,hx,_=>by simp[jQ]at h;subst h;exact hx
 |(off,vs)::qs,xs,ys,h,hx,hq=>by
  simp only[jQ]at h
  cases hb:R8 (off+vs.length) xs.length with
  |false=>simp[hb]at h
  |true=>
   simp only[hb,cond_true]at h
   refine qzp qs _ ys h ?_ (fun q h=>hq q (by simp[h]))
   intro x h
   simp only[Jp]at h
   rcases h with(h|h)|h
   ·exact hx x (Lu h)
   ·exact hq (off,vs) (by simp) x h
   ·exact hx x (List.mem_of_mem_drop h)
theorem qkd {sz}:∀(ps:List (Nat×jt)) (qs:List (Nat×AVal)),ye env sz ps=I qs→∀q∈qs,∀x∈q.2.flat,qk x=Gc
 | [],qs,h=>by simp[ye]at h;subst h;simp
 |(i,x)::ps,qs,h=>by
  simp only[ye]at h
  split at h
  ·rename_i v od
   cases hb:(Gz v.flat.length sz&&v.flat.all qk)with
   |false=>simp[hb]at h
   |true=>
    simp only[hb,cond_true]at h
    simp only[Gw,N9]at hb
    split at h
    ·rename_i r hr
     cases h
     intro q hq
     rcases Sm.1 hq with rfl|hq
     ·exact hb.2
     ·exact qkd ps r hr q hq
    ·cases h
  ·cases h
theorem qmj (e:aq C ω w w0.heap.size env a.tmps){t el:TypeId}{ps len sz z fS qs xs}
  (ho:o.op=.buildSlice t len ps) (ht:P.underlying t=I (.slice el)) (hn:jp P el=I sz) (hz:yr P el=I z) (hlen:sz*len≤65536) (h0:0<sz) (ig:z.length=sz)
  (mE:xQ ps.toList=I fS) (hq:ye env sz fS=I qs) (hx:lE (Gg len (vg sz z)) qs=I xs):
  ∃ds,(execOp a.eval o).run P w=.ok (.value (.slice (I ⟨w.heap.size,0,E3⟩) len len)) (w.alloc (.cells ds el))∧aS C (xs.flatMap AVal.flat) ds.toList∧(∀v∈ds.toList,v.oneCell'=Gc)∧(∀x∈xs,x.flat.length=sz)∧xs.length=len∧len*sz≤ds.size:=by
 obtain⟨qM,zv,lq,cK,lJ⟩:=vh (C:=C) hz
 have xV:∀x∈z,x.isAgg=Ga:=fun x h=>qlr (qM x h)
 have ni:zv.cells.toList.length=sz:=by rw[cK.length,ig]
 have jT:((G8 (len*sz)).map (fun i=>zv.cells[i % zv.cells.size]!)).toList=(Gg len zv.cells.toList).flatten:=by
  have:=K4 ni h0 len
  simpa using this
 obtain⟨qQ,hqs⟩:=qo3 e.cm ps.toList fS qs mE hq
 obtain⟨hf,nj,nh⟩:=qxo (sz:=sz) qs _ xs hx (by
  intro x h
  obtain⟨_,rfl⟩:=Jn.1 h
  rw[QX ig xV,ig]) hqs
 rw[qmf ig xV]at hf
 obtain⟨ds,hd,hdr⟩:=K1 _ _ _ _ ((G8 (len*sz)).map (fun i=>zv.cells[i % zv.cells.size]!)) (by rw[jT];exact cK.replicate len) hf qQ
 have jU:xs.length=len:=by simpa using nh
 have hsc:∀y∈xs.flatMap AVal.flat,qk y=Gc:=qzp _ _ _ hf (by
  intro x h
  rw[Oa]at h
  obtain⟨l,h1,h2⟩:=h
  obtain⟨_,rfl⟩:=Jn.1 h1
  exact qM x h2) (by
  intro q hq1 x Aq
  obtain⟨p,jV,rfl⟩:=Ob.1 hq1
  exact qkd fS qs hq p jV x Aq)
 have Aw:ds.toList.length=len*sz:=by rw[hdr.length,ym xs nj,jU]
 refine⟨ds,?_,hdr,Av hdr hsc,nj,jU,by simp at Aw;omega⟩
 ·have vf:(ps.map fun(x:Nat×Operand)=>(x.1,a.eval x.2)).toList=ps.toList.map fun x=>(x.1,a.eval x.2):=by simp
  have hle:¬(16777216<len*sz):=by rw[Nat.mul_comm];omega
  by_cases xW:len=0
  ·subst xW
   have hr:G8 0=#[]:=rfl
   rw[Nat.zero_mul,hr,Array.map_empty]at hd
   simp only[execOp,ho,Instr.buildSlice,Sem.run_bind,run_underlying ht,Result.andThen_ok,yl hn,vf]
   simp[hr,hd,newRow]
  ·have bG:¬(len*sz=0):=by
    intro h
    rcases R1.1 h with h|h<;>omega
   simp only[execOp,ho,Instr.buildSlice,Sem.run_bind,run_underlying ht,Result.andThen_ok,yl hn,vf]
   simp[hle,bG,lq,hd,newRow]
theorem qy8 (m:az P C ω w0 C0 hp w)(e:aq C ω w w0.heap.size env a.tmps){t el:TypeId}{ps len sz z fS qs xs}
  (ho:o.op=.buildSlice t len ps) (ht:P.underlying t=I (.slice el)) (hn:jp P el=I sz) (hz:yr P el=I z) (hlen:sz*len≤65536) (h0:0<sz) (ig:z.length=sz)
  (mE:xQ ps.toList=I fS) (hq:ye env sz fS=I qs) (hx:lE (Gg len (vg sz z)) qs=I xs):
  ∃v w',(execOp a.eval o).run P w=.ok (.value v) w'∧zo P C0 w0 C a.tmps d env ⟨.list Ga sz xs,Gc,E3,hp⟩ v w':=by
 obtain⟨ds,bF,hdr,h1,nj,jU,cA⟩:=qmj (C:=C) (ω:=ω) (w:=w) (w0:=w0) e ho ht hn hz hlen h0 ig mE hq hx
 refine⟨_,_,bF,?_⟩
 have eS:=K3 (d:=d) (tmps:=a.tmps) m e ds el xs sz len ds.toList hdr (by intro j v h;simpa using h) h1 nj (by omega) cA E3
 rw[jU]at eS
 exact eS
theorem q6q (m:az P C ω w0 C0 hp w)(e:aq C ω w w0.heap.size env a.tmps){t el:TypeId}{x y:Operand}{x' y':jt}{n sz b:Nat}{z}
  (ho:o.op=.makeSlice t x y) (ht:P.underlying t=I (.slice el)) (hn:jp P el=I sz) (hb:n6 P el=I b) (hz:yr P el=I z) (h0:0<sz) (ig:z.length=sz)
  (h1:qt x=I x') (h2:qt y=I y') (e1:qi env x'=I (.int .i64 (n:Int))) (e2:qi env y'=I (.int .i64 (n:Int))) (hle:n≤1073741824) (jH:b≤4096):
  ∃v w',(execOp a.eval o).run P w=.ok (.value v) w'∧zo P C0 w0 C a.tmps d env ⟨.list Ga sz (Gg n (vg sz z)),Gc,E3,hp⟩ v w':=by
 obtain⟨qM,zv,lq,cK,lJ⟩:=vh (C:=C) hz
 have xV:∀x∈z,x.isAgg=Ga:=fun x h=>qlr (qM x h)
 have ni:zv.cells.toList.length=sz:=by rw[cK.length,ig]
 have jT:((G8 (n*sz)).map (fun i=>zv.cells[i % zv.cells.size]!)).toList=(Gg n zv.cells.toList).flatten:=by
  have:=K4 ni h0 n
  simpa using this
 have r1:=(qv e.cm h1 e1).bQ
 have r2:=(qv e.cm h2 e2).bQ
 have nj:∀x∈Gg n (vg sz z),x.flat.length=sz:=by
  intro x h
  obtain⟨_,rfl⟩:=Jn.1 h
  rw[QX ig xV,ig]
 have ga:aS C ((Gg n (vg sz z)).flatMap AVal.flat) ((G8 (n*sz)).map (fun i=>zv.cells[i % zv.cells.size]!)).toList:=by
  rw[qmf ig xV,jT];exact cK.replicate n
 obtain⟨i,hi,qR⟩:∃i,P.info? el=I i∧i.bytes=b:=by
  unfold n6 at hb
  cases hi:P.info? el with
  |none=>simp[hi]at hb
  |some i=>exact⟨i,rfl,by simpa[hi]using hb⟩
 have kI:i.size=sz:=by
  unfold jp at hn
  rw[hi]at hn
  simpa using hn
 have qS:IntKind.i64.wrap (n:Int)=n:=by
  rw[←Ap];unfold qe
  have:qH .i64 (n:Int)=Gc:=by simp[qH];exact Hd hle (by decide)
  rw[this];rfl
 have Am:b*n≤281474976710656:=Hd (J9 jH hle) (by decide)
 have eS:=K3 (d:=d) (tmps:=a.tmps) m e ((G8 (n*sz)).map (fun i=>zv.cells[i % zv.cells.size]!)) el (Gg n (vg sz z)) sz n _ ga (by intro j v h;rw[Gp]at h;exact h) (by
   rw[jT]
   intro v hv
   rw[Oa]at hv
   obtain⟨l,q1,q2⟩:=hv
   obtain⟨_,rfl⟩:=Jn.1 q1
   exact lJ v q2) nj (by simp) (by simp) E3
 rw[List.length_replicate]at eS
 refine⟨_,_,?_,eS⟩
 have c1:¬((b:Int)*(n:Int) > 2^48):=by
  have h1:((b*n:Nat):Int)≤281474976710656:=Int.ofNat_le.2 Am
  rw[Int.natCast_mul]at h1
  have h2:(2:Int)^48=281474976710656:=by decide
  rw[h2];omega
 have c2:¬((n:Int)<0):=by omega
 have hr:G8 0=#[]:=rfl
 simp only[execOp,ho,Instr.makeSlice,Sem.run_bind,run_underlying ht,r1,r2,asInt,asIntOf,Sem.run_pure,Result.andThen_ok,typeInfo,run_program,hi,qR,qS,c2,c1,decide_false,Sn,G9,if_false,Int.lt_irrefl,gt_iff_lt,run_askRoom,Int.toNat_natCast,yl hn,newRow]
 by_cases Ar:n=0
 ·subst Ar
  simp[hr]
 ·have bG:¬(n*sz=0):=by
   intro h
   rcases R1.1 h with h|h<;>omega
  simp[bG,lq]
end
structure gF (w w':World)(r:Nat)(cs:Array Value):Prop where
 at_:∃t,w'.heap[r]?=I (.cells cs t (0,0))
 size:w'.heap.size=w.heap.size
 other:∀k,k≠r→w'.heap[k]?=w.heap[k]?
 os:w'.os=w.os
 output:w'.output=w.output
theorem Fv {w r old}{t:TypeId}(h:w.heap[r]?=I (.cells old t (0,0)))(cs:Array Value):gF w (w.setRow r cs) r cs:=
 ⟨⟨t,setRow_heap w r old cs t (0,0) h⟩,setRow_size w r cs,fun k hk=>setRow_other w r k cs hk,rfl,rfl⟩
section
variable {P:Program}{C C0:aI}{ω:Nat→Option Loc}{w w' w0:World}{hp:qh}{env:Env}{a:Act}{o:Oper}{tmps:Array Value}{d:Loc}
theorem aJ.iH {B r cs ℓ x v}(hu:gF w w' r cs)(hr:ω r≠I ℓ)(ho:aJ C ω w B ℓ x v):aJ C ω w' B ℓ x v:=by
 unfold aJ at *
 split at ho
 ·rename_i a len cap
  obtain⟨h1,h2,h3,h4,h8,⟨cells,elem,h5,h6⟩,h7⟩:=ho
  refine⟨h1,h2,h3,h4,h8,⟨cells,elem,?_,h6⟩,h7⟩
  rw[hu.other _ (fun h=>hr (h▸h1))]
  exact h5
 ·rename_i a
  obtain⟨h1,h2,h3,h4,h8,⟨cells,elem,h5,h6⟩,h7⟩:=ho
  refine⟨h1,h2,h3,h4,h8,⟨cells,elem,?_,h6⟩,h7⟩
  rw[hu.other _ (fun h=>hr (h▸h1))]
  exact h5
 ·trivial
theorem bE.iH {B b r r' cs x}(hu:gF w w' r cs)(bG:r'≠r)(hr:∀j,ω r≠I (.cell b j))(hb:bE P C ω w B b r' x):bE P C ω w' B b r' x:=by
 have hg:=hu.other r' bG
 cases x with
 |hole=>exact hb
 |cells ez=>
  obtain⟨vs,elem,h1,h2,h3⟩:=hb
  exact⟨vs,elem,by rw[hg];exact h1,h2,fun j c hc=>let ⟨v,a,q,b,d⟩:=h3 j c hc; ⟨v,a,q,b,fun e=>(d e).iH hu (hr j)⟩⟩
 |map es=>obtain⟨b9,clock,h1,h2⟩:=hb;exact⟨b9,clock,by rw[hg];exact h1,h2⟩
 |iter s pos=>show w'.heap[r']?=_;rw[hg];exact hb
 |loop l=>obtain⟨lp,h1,h2⟩:=hb;exact⟨lp,by rw[hg];exact h1,h2⟩
 |fV t e l=>obtain⟨p,v,h1,h2,h3,h4⟩:=hb;exact⟨p,v,by rw[hg];exact h1,h2,h3,h4.iH hu (hr 1)⟩
 |dead=>obtain⟨cs,t,h1⟩:=hb;exact⟨cs,t,by rw[hg];exact h1⟩
 |vec sz bJ xs=>exact ea.imp (fun _ _ _ h=>h) (fun _ h=>h) (fun _ h _=>h) hg (fun q n cap k=>⟨hu.other q (fun hq=>hr 0 (hq▸k.1)),k.iH hu (hr 0)⟩) hb
theorem qvf (m:az P C ω w0 C0 hp w)(e:aq C ω w w0.heap.size env tmps){r q cells}{t:TypeId}{news s}(hω:ω r=I (.slot s))(hB:w0.heap.size≤r∨C.W r)(hβ:∀b,C.β b≠I r)
  (hg:w.heap[r]?=I (.cells cells t (0,0))) (cA:q+news.length≤cells.size) (hK:∀o,q≤o→C.K r o=E3) (h1:∀v∈news,v.oneCell'=Gc):
  az P (C.put r q news) (cI ω r d) w0 C0 hp (w.setRow r (cells.toList.take q++news++cells.toList.drop (q+news.length)).toArray) ∧
  aq (C.put r q news) (cI ω r d) (w.setRow r (cells.toList.take q++news++cells.toList.drop (q+news.length)).toArray) w0.heap.size (yc env (I s)) tmps∧C.le (C.put r q news):=by
 have hu:=Fv hg (cells.toList.take q++news++cells.toList.drop (q+news.length)).toArray
 generalize QZ:w.setRow r (cells.toList.take q++news++cells.toList.drop (q+news.length)).toArray=w' at hu
 have hle:=aI.gE (C:=C) (off:=q) news hK
 have cQ:∀ℓ x v,ℓ≠.slot s→aJ C ω w w0.heap.size ℓ x v→aJ (C.put r q news) (cI ω r d) w' w0.heap.size ℓ x v:=by
  intro ℓ x v hℓ ho
  have bG:ω r≠I ℓ:=by rw[hω];intro h;exact hℓ (I.inj h).symm
  have h2:aJ (C.put r q news) ω w' w0.heap.size ℓ x v:=(ho.put news (.inr bG)).iH hu bG
  exact h2.other (.inl bG)
 refine⟨?_,?_,hle⟩
 ·have Fw:=hu.size
  refine { base:=m.base,know:=?_,de:=?_,apart:=?_,inj:=m.inj,lt:=?_,size:=?_,frame:=?_,fo:=?_,os:=hu.os.trans m.os,output:=hu.output.trans m.output,fresh:=m.fresh,grown:=aI.le_trans m.grown hle,old:=?_,box:=?_,iA:=fun q hq=>by rw[hu.size];exact m.iA q hq }
  ·intro b p v hk
   simp only[aI.put]at hk
   split at hk
   ·rename_i hc
    obtain⟨rfl,h2,h3⟩:=hc
    obtain⟨t',Fx⟩:=hu.at_
    simp only[World.cell?,Fx]
    rw[Gr,If,Gl (by simp;omega),Gh (by simp;omega)]
    have:(St q cells.toList).length=q:=by simp;omega
    rw[this]
    simpa using hk
   ·by_cases hb:b=r
    ·subst hb
     have bw:p<q:=by
      rcases Nat.lt_or_ge p q with h|h
      ·exact h
      ·rw[hK p h]at hk;cases hk
     have hc:=m.know _ _ _ hk
     obtain⟨t',Fx⟩:=hu.at_
     simp only[World.cell?,hg]at hc
     simp only[World.cell?,Fx]
     simp only[Jo,G9,if_false]at hc ⊢
     rw[Gr,If,Gh (by simp;omega),Ha bw,Gp]
     exact hc
    ·have hc:=m.know _ _ _ hk
     simp only[World.cell?]at hc ⊢
     rw[hu.other b hb]
     exact hc
  ·intro b p v hk
   simp only[aI.put]at hk
   split at hk
   ·exact h1 v (Hb hk)
   ·exact m.de b p v hk
  ·intro b p o hb
   simp only[aI.put]
   rw[if_neg]
   ·exact m.apart b p o hb
   ·rintro ⟨rfl,_⟩;exact hβ b hb
  ·intro b p hb
   rw[Fw];exact m.lt b p hb
  ·rw[Fw];exact m.size
  ·intro k hk hn hw
   have ij:k≠r:=fun h=>by
    subst h
    rcases hB with h|h
    ·omega
    ·rw[m.grown.w]at h;exact hw h
   rw[hu.other k ij];exact m.frame k hk hn hw
  ·intro k hk
   have ij:k≠r:=fun h=>by
    subst h
    have:=m.fo k hk
    rw[hg]at this;cases this
   rw[hu.other k ij];exact m.fo k hk
  ·intro k o hk hw
   have ij:k≠r:=fun h=>by
    subst h
    rcases hB with h|h
    ·omega
    ·rw[m.grown.w]at h;exact hw h
   simp only[aI.put]
   rw[if_neg (by rintro ⟨h,_⟩;exact ij h)]
   exact m.old k o hk hw
  ·intro b x p hx hb
   have bG:p≠r:=fun h=>hβ b (h▸hb)
   have vi:=m.box b x p hx hb
   have lu:bE P C ω w' w0.heap.size b p x:=vi.iH hu bG (fun j=>by rw[hω];simp)
   refine lu.mono hle fun j y v ho=>?_
   have lL:ω r≠I (.cell b j):=by rw[hω];simp
   exact(ho.put news (.inr lL)).other (.inl lL)
 ·intro t x hx
  have hlk:∃v o,jj s env=I (v,o)∨jj s env=E3:=by
   cases h:jj s env with
   |none=>exact⟨.undef,Ga,.inr rfl⟩
   |some x=>exact⟨x.1,x.2,.inl rfl⟩
  by_cases lM:t=s
  ·subst lM
   simp only[yc]at hx
   cases hl:jj t env with
   |none=>rw[hl]at hx;simp only[hl]at hx;cases hx
   |some y=>
    rw[hl]at hx
    simp only[jj,R0,cond_true]at hx
    cases hx
    obtain⟨v,h2,h3,_⟩:=e t y hl
    exact⟨v,h2,aB.mono hle h3,by simp⟩
  ·have fh:jj t env=I x:=by
    simp only[yc]at hx
    cases hl:jj s env with
    |none=>rw[hl]at hx;exact hx
    |some y=>
     rw[hl]at hx
     simp only[jj]at hx
     have:Gz s t=Ga:=by
      cases hb:Gz s t with
      |false=>rfl
      |true=>exact absurd (Gd hb).symm lM
     rw[this]at hx
     exact hx
   obtain⟨v,h2,h3,h4⟩:=e t x fh
   exact⟨v,h2,aB.mono hle h3,fun h=>cQ _ _ _ (by simp[lM]) (h4 h)⟩
theorem Q0 {t tx ty e:TypeId}{i:TypeInfo}(ht:P.underlying t=I (.slice e))(hi:P.info? e=I i)(r off np Ax:Nat)(x:Value)(n:Nat)(news:List Value)(hs:Src P i.size tx x n news w)(ep:np+n≤Ax)
  {cells} {te:TypeId} (hg:w.heap[r]?=I (.cells cells te (0,0))) (cA:off+np*i.size+news.length≤cells.size):
  (Builtin.append_ #[t,tx] ty #[.slice (I ⟨r,off,E3⟩) np Ax,x]).run P w =
   .ok (.slice (I ⟨r,off,E3⟩) (np+n) Ax) (w.setRow r (cells.toList.take (off+np*i.size)++news++cells.toList.drop (off+np*i.size+news.length)).toArray):=by
 have b6:=run_storeCells_at (P:=P) r (off+np*i.size) te news 0 cells w hg (by simpa using cA) hs.one
 simp only[Se]at b6
 rcases hs.kind with⟨e',hk⟩|hk<;>simp[Builtin.append_,run_underlying ht,run_underlying hk,sizeOf,typeInfo,hi,hs.len,ep,hs.cells,Addr.add_lit,b6]
theorem qk4 {t tx ty e:TypeId}{i:TypeInfo}(ht:P.underlying t=I (.slice e))(hi:P.info? e=I i)(x:Value)(hs:Src P i.size tx x 0 [] w):
  (Builtin.append_ #[t,tx] ty #[.slice E3 0 0,x]).run P w=.ok (.slice E3 0 0) w:=by
 rcases hs.kind with⟨e',hk⟩|hk<;>simp[Builtin.append_,run_underlying ht,run_underlying hk,sizeOf,typeInfo,hi,hs.len,hs.cells]
theorem K5 (m:az P C ω w0 C0 hp w){u:TypeId}{ut:TypeDesc}{sz vy ys v}(hu:P.underlying u=I ut)(jI:Ag ut=Gc)(h:zy sz vy=I ys)(hr:bP C vy v):
  ∃news,Src P sz u v ys.length news w∧aS C (ys.flatMap AVal.flat) news∧(∀y∈ys,y.flat.length=sz)∧∀x∈news,x.oneCell'=Gc:=by
 have hk:(∃e',P.underlying u=I (.slice e'))∨P.underlying u=I .string:=by
  cases ut<;>simp[Ag]at jI
  ·exact .inr hu
  ·exact .inl ⟨_,hu⟩
 cases vy with
 |list n sy og=>
  simp only[zy]at h
  cases hb:(Gz sz sy||og.isEmpty)with
  |false=>simp[hb]at h
  |true=>
   simp only[hb,cond_true,I.injEq]at h
   subst h
   rcases hr.cU with⟨rfl,rfl,rfl⟩|⟨rfl,r,q,cap,rfl,_,db⟩|⟨rfl,rfl,ad,_,rfl⟩
   ·exact⟨[],⟨hk,fun _=>rfl,run_firstCells_none w sz 0 0 0,run_firstCells_none w.drew sz 0 0 0,by simp,by simp⟩,.nil,by simp,by simp⟩
   ·obtain⟨news,h1,h2⟩:=cu.vals db.cells
    have h3:∀x∈news,x.oneCell'=Gc:=fun x hx=>by
     obtain⟨j,hj⟩:=Nj hx
     exact m.de _ _ _ (h2 j x hj)
    have cS:∀y∈og,y.flat.length=sz:=by
     intro y hy
     rcases Bool.or_eq_true _ _▸hb with hb|hb
     ·rw[Gd hb];exact db.sized y hy
     ·rw[List.isEmpty_iff.1 hb]at hy;cases hy
    have hl:news.length=og.length*sz:=by rw[h1.length,ym og cS]
    have hc:∀j u,news[j]?=I u→w.cell? ((⟨r,q,E3⟩:Addr).add j)=I u:=fun j u hj=>by rw[add_lit];exact m.know _ _ _ (h2 j u hj)
    refine⟨news,⟨hk,fun _=>rfl,run_firstCells_some w sz _ _ _ _ news hl hc,run_firstCells_some w.drew sz _ _ _ _ news hl (by simpa using hc),hl,h3⟩,h1,cS,h3⟩
   ·exact⟨[],⟨hk,fun _=>rfl,run_firstCells_some w sz _ _ _ _ [] (by simp) (by simp),run_firstCells_some w.drew sz _ _ _ _ [] (by simp) (by simp),by simp,by simp⟩,.nil,by simp,by simp⟩
 |str s=>
  simp only[zy]at h
  cases hb:Gz sz 1 with
  |false=>simp[hb]at h
  |true=>
   simp only[hb,cond_true,I.injEq]at h
   obtain rfl:=Gd hb
   subst h
   obtain rfl:=hr.cq
   have jW:∀l:List UInt8,(l.map fun(c:UInt8)=>AVal.int .u8 c.toNat).flatMap AVal.flat=l.map fun(c:UInt8)=>AVal.int .u8 c.toNat:=by
    intro l;induction l with
    |nil=>rfl
    |cons c l ih=>simp only[Ts,Js,ih];rfl
   have ga:∀l:List UInt8,aS C (l.map fun(c:UInt8)=>AVal.int .u8 c.toNat) (l.map fun b=>Value.int .u8 b.toNat):=by
    intro l;induction l with
    |nil=>exact .nil
    |cons c l ih=>exact .cons _ _ _ _ (.int _ _) ih
   refine⟨byteCells ⟨⟨s⟩⟩,⟨hk,fun w'=>by simp[Builtin.lenOf];rfl,?_,?_,?_,?_⟩,?_,?_,?_⟩
   ·rw[Sj];exact firstCells_string (P:=P) ⟨⟨s⟩⟩ w
   ·rw[Sj];exact firstCells_string (P:=P) ⟨⟨s⟩⟩ w.drew
   ·simp[byteCells]
   ·intro u hu;obtain⟨_,_,rfl⟩:=Ob.1 hu;rfl
   ·rw[jW];simpa[byteCells]using ga s
   ·intro y hy;obtain⟨_,_,rfl⟩:=Ob.1 hy;rfl
   ·intro u hu;obtain⟨_,_,rfl⟩:=Ob.1 hu;rfl
 |_=>simp[zy]at h
theorem Fy {x s}(h:zq env x=I s):x=.tmp s∧∃v,jj s env=I (v,Gc):=by
 unfold zq at h
 split at h
 ·split at h
  ·rename_i t v hl
   cases h
   exact⟨rfl,v,hl⟩
  ·cases h
 ·cases h
theorem q5c (e:aq C ω w w0.heap.size env a.tmps){x x' sz len cap xs ad}(h1:qt x=I x')(cQ:(zq env x').isSome=Gc)(e1:qi env x'=I (.list Ga sz xs))(hx:a.eval x=.slice (I ad) len cap):ad.spot=E3:=by
 obtain⟨s,gV⟩:=Lg.1 cQ
 obtain⟨fh,v0,hl⟩:=Fy gV
 have iX:v0=.list Ga sz xs:=by
  subst fh
  simp only[qi,hl]at e1
  exact I.inj e1
 subst iX
 obtain⟨cv,xX,K6,Ay⟩:=e s _ hl
 have oM:cv=.slice (I ad) len cap:=by
  have iI:qt x=I (.tmp s):=by rw[h1,fh]
  cases x with
  |tmp t'=>
   simp only[qt]at iI
   cases iI
   have:a.eval (.tmp s)=cv:=by simp[Act.eval,Gs,xX]
   rw[←this,hx]
  |const u=>simp only[qt]at iI;split at iI<;>cases iI
  |func f=>simp[qt]at iI
  |global g=>simp[qt]at iI
 subst oM
 exact(Ay rfl).2.2.2.1
theorem jam (m:az P C ω w0 C0 hp w)(e:aq C ω w w0.heap.size env a.tmps){c}{t u el:TypeId}{ut:TypeDesc}{x y x' y' sz b n c8 xs ys vy}
  (ho:o.op=.call c) (dU:c.callee=.builtin .append) (eg:c.args.toList=[x,y]) (eI:c.argTypes.toList=[t,u]) (ht:P.underlying t=I (.slice el)) (hu:P.underlying u=I ut) (jI:Ag ut=Gc)
  (hn:jp P el=I sz) (hb:n6 P el=I b) (h1:qt x=I x') (h2:qt y=I y') (e1:qi env x'=I (.list n c8 xs)) (e2:qi env y'=I vy) (cN:zy sz vy=I ys)
  (cQ:n=Gc∨(zq env x').isSome=Gc) (Az:sz=c8∨(xs=[]∧n=Gc)) (hlen:xs.length+ys.length≤1073741824) (jH:b≤4096) (hzero:∃z,yr P el=I z∧z.length=sz):
  ∃v w',(execOp a.eval o).run P w=.ok (.value v) w'∧zo P C0 w0 C a.tmps d env ⟨qJ n sz xs ys,Gc,zq env x',hp⟩ v w':=by
 have ha:c.args=#[x,y]:=by apply G6;simpa using eg
 have lI:c.argTypes=#[t,u]:=by apply G6;simpa using eI
 obtain⟨i,hi,qR⟩:∃i,P.info? el=I i∧i.bytes=b:=by
  unfold n6 at hb
  cases hi:P.info? el with
  |none=>simp[hi]at hb
  |some i=>exact⟨i,rfl,by simpa[hi]using hb⟩
 have kI:i.size=sz:=by
  unfold jp at hn;rw[hi]at hn;simpa using hn
 obtain⟨z,hz,AA⟩:=hzero
 obtain⟨zv,nq⟩:∃zv,i.zero=I zv:=by
  unfold yr at hz;rw[hi]at hz
  cases hq:i.zero with
  |none=>simp[hq]at hz
  |some v=>exact⟨v,rfl⟩
 have rx:=qv e.cm h1 e1
 have ry:=qv e.cm h2 e2
 obtain⟨news,hs,cV,fM,cW⟩:=K5 m hu jI cN ry
 have eT:∀ {z:Value} {w':World},(Builtin.append_ #[t,u] o.type #[a.eval x,a.eval y]).run P w=.ok z w'→(execOp a.eval o).run P w=.ok (.value z) w':=by
  intro z w' h
  simp[execOp,ho,resolve,dU,ha,lI,invoke,builtin,h]
 have nu:news.length=ys.length*sz:=by rw[cV.length,ym ys fM]
 -- a new row
 have grow:∀(base:Option Addr) (cap:Nat) (eC:List Value),a.eval x=.slice base xs.length cap→cap<xs.length+ys.length→(∀(w':World),w'=w.drew→(Builtin.firstCells i.size xs.length (.slice base xs.length cap)).run P w'=.ok eC.toArray w') →
   aS C (xs.flatMap AVal.flat) eC→(∀v∈eC,v.oneCell'=Gc)→(∀x∈xs,x.flat.length=sz) →
   ∃v w',(execOp a.eval o).run P w=.ok (.value v) w'∧zo P C0 w0 C a.tmps d env ⟨.list Ga sz (xs++ys),Gc,zq env x',hp⟩ v w':=by
  intro base cap eC qT hcap hold xY Fz oN
  have cA:Builtin.nextslicecap (xs.length+ys.length) cap*i.bytes≤281474976710656:=growslice_fits hcap (by
   rw[qR]
   exact Hd (J9 hlen jH) (by decide))
  have bF:=run_append_grow_src w t u o.type el i zv ht hi nq base xs.length cap eC (hold _ rfl) (a.eval y) ys.length news (kI▸hs) hcap (by omega) cA
  rw[←qT]at bF
  refine⟨_,_,eT bF,?_⟩
  have hx:Ext w w.drew:=Ext.drew w
  have vj:=grownCap_ge w (xs.length+ys.length) cap el
  have ig:zv.cells.size=sz:=by
   obtain⟨_,zv',lJ,FA,_⟩:=vh (C:=C) hz
   have:=lJ w
   simp[zeroValue,typeInfo,hi,nq]at this
   subst this
   have:=FA.length
   simp at this
   omega
  have eS:=K3 (d:=d) (tmps:=a.tmps) (m.ext hx) (e.ext hx) ((eC++news).toArray++Builtin.zeroCells zv.cells (grownCap w (xs.length+ys.length) cap el-(xs.length+ys.length))) el (xs++ys) sz (grownCap w (xs.length+ys.length) cap el) (eC++news)
   (by rw[R9];exact aS.append xY cV) (by
    intro j v hj
    rw[Hc (by simpa using(Gi.1 hj).1)]
    simpa using hj) (by
    intro v hv
    rcases Jp.1 hv with hv|hv
    ·exact Fz v hv
    ·exact cW v hv) (by
    intro x hx
    rcases Jp.1 hx with hx|hx
    ·exact oN x hx
    ·exact fM x hx) (by rw[Li];exact vj) (by
    have ho:=xY.length
    rw[ym xs oN]at ho
    simp[Builtin.zeroCells,ig,ho,nu]
    rw[←Jt,←Jt]
    exact Gv _ (by omega)) (zq env x')
  rw[Li]at eS
  exact eS
 rcases rx.cU with⟨rfl,rfl,hx⟩|⟨rfl,r,q,cap,hx,hle,db⟩|⟨rfl,rfl,ad,mC,hx⟩
 rotate_right
 ·exact absurd (q5c e h1 (by rcases cQ with h|h<;>first|cases h|exact h) e1 hx) mC
 ·-- nil
  cases ys with
  |nil=>
   have:news=[]:=by cases cV;rfl
   subst this
   refine⟨.slice E3 0 0,w,eT ?_,C,ω,aI.le_refl C,m,e.strip _,by simpa[qJ]using aB.jF 0,fun _=>trivial⟩
   rw[hx]
   exact qk4 ht hi _ (kI▸hs)
  |cons y1 ys1=>
   have:=grow E3 0 [] hx (by simp) (fun w' _=>run_firstCells_none w' _ _ _ _) .nil (by simp) (by simp)
   simpa[qJ]using this
 ·-- own
  rw[show qJ Ga sz xs ys=.list Ga sz (xs++ys)from rfl]
  have FB:(zq env x').isSome=Gc:=by rcases cQ with h|h<;>first|cases h|exact h
  obtain⟨s,gV⟩:=Lg.1 FB
  obtain⟨fh,v0,hl⟩:=Fy gV
  obtain rfl:sz=c8:=by rcases Az with h|⟨_,h⟩<;>first|exact h|cases h
  have iX:v0=.list Ga sz xs:=by
   subst fh
   simp only[qi,hl]at e1
   exact I.inj e1
  subst iX
  obtain⟨cv,xX,K6,Ay⟩:=e s _ hl
  have oM:cv=.slice (I ⟨r,q,E3⟩) xs.length cap:=by
   have iI:qt x=I (.tmp s):=by rw[h1,fh]
   cases x with
   |tmp t'=>
    simp only[qt]at iI
    cases iI
    have:a.eval (.tmp s)=cv:=by simp[Act.eval,Gs,xX]
    rw[←this,hx]
   |const u=>simp only[qt]at iI;split at iI<;>cases iI
   |func f=>simp[qt]at iI
   |global g=>simp[qt]at iI
  subst oM
  obtain⟨hω,hB,hβ,_,K7,⟨cells,te,hg,cA,_⟩,hK⟩:=Ay rfl
  simp only at hω hB hβ hg cA hK
  obtain⟨eC,FC,ho2⟩:=cu.vals db.cells
  have oN:=db.sized
  by_cases ep:xs.length+ys.length≤cap
  ·-- there is room
   have gG:(xs.length+ys.length)*sz≤cap*sz:=Gv _ ep
   rw[Jt]at gG
   have bF:=Q0 (P:=P) (w:=w) (ty:=o.type) ht hi r q xs.length cap (a.eval y) ys.length news (kI▸hs) ep hg (by rw[kI,nu];omega)
   rw[←hx]at bF
   obtain⟨m',e',cO⟩:=qvf (d:=d) (tmps:=a.tmps) m e (r:=r) (q:=q+xs.length*sz) (news:=news) hω hB hβ hg (by rw[nu];omega) hK cW
   rw[kI]at bF
   rw[gV]
   refine⟨_,_,eT bF,_,_,cO,m',e',?_,?_⟩
   ·have qU:bu (C.put r (q+xs.length*sz) news) r sz (xs++ys) q:=bu.append (aB.mono cO db) (bu.eO (aI.fg hK cV) fM)
    have:=aB.list sz (xs++ys) r q cap (by simpa using ep) qU
    simpa using this
   ·intro _
    have hall:∀x∈xs++ys,x.flat.length=sz:=fun x hx=>by
     rcases Jp.1 hx with hx|hx
     ·exact oN x hx
     ·exact fM x hx
    refine⟨by simp[cI],hB,hβ,rfl,K7,⟨_,te,setRow_heap w r cells _ te (0,0) hg,?_,eP.sized hall⟩,?_⟩
    ·simp;omega
    ·intro p hp
     rw[Jt]at hp
     simp only[aI.put]
     simp only at hp
     rw[if_neg (by rw[nu];omega)]
     exact hK p (by omega)
  ·-- there is none
   have fZ:∀v∈eC,v.oneCell'=Gc:=fun v hv=>by
    obtain⟨j,hj⟩:=Nj hv
    exact m.de _ _ _ (ho2 j v hj)
   have Q5:eC.length=xs.length*i.size:=by rw[FC.length,ym xs oN,kI]
   have:=grow (I ⟨r,q,E3⟩) cap eC hx (by omega) (fun w' QZ=>run_firstCells_some w' _ _ _ _ _ eC Q5 (fun j v hj=>by
    subst QZ
    rw[add_lit]
    have:=m.know _ _ _ (ho2 j v hj)
    simpa using this)) FC fZ oN
   simpa using this
end
structure nv (w w':World)(r:Nat):Prop where
 size:w'.heap.size=w.heap.size
 other:∀k,k≠r→w'.heap[k]?=w.heap[k]?
 fz:∀c t fr,w'.heap[r]?=I (.cells c t fr)→fr=(0,0)
 os:w'.os=w.os
 output:w'.output=w.output
theorem gF.iH {w w' r cs}(h:gF w w' r cs):nv w w' r:=
 ⟨h.size,h.other,fun c t fr hc=>by obtain⟨t',ht⟩:=h.at_;rw[ht]at hc;cases hc;rfl,h.os,h.output⟩
section
variable {P:Program}{C C0:aI}{ω:Nat→Option Loc}{w w' w0:World}{hp:qh}{env:Env}{a:Act}{o:Oper}{tmps:Array Value}{d:Loc}
theorem aJ.dC {B b r ℓ x v}(hu:nv w w' r)(hb:C.β b=I r)(ho:aJ C ω w B ℓ x v):aJ C ω w' B ℓ x v:=by
 unfold aJ at *
 split at ho
 ·obtain⟨h1,h2,h3,h4,h8,⟨cells,elem,h5,h6⟩,h7⟩:=ho
  refine⟨h1,h2,h3,h4,h8,⟨cells,elem,?_,h6⟩,h7⟩
  rw[hu.other _ (fun h=>h3 b (by rw[h];exact hb))]
  exact h5
 ·obtain⟨h1,h2,h3,h4,h8,⟨cells,elem,h5,h6⟩,h7⟩:=ho
  refine⟨h1,h2,h3,h4,h8,⟨cells,elem,?_,h6⟩,h7⟩
  rw[hu.other _ (fun h=>h3 b (by rw[h];exact hb))]
  exact h5
 ·trivial
theorem aq.dC {B b r}(hu:nv w w' r)(hb:C.β b=I r)(e:aq C ω w B env tmps):aq C ω w' B env tmps:=
 fun s x hx=>let ⟨v,h1,h2,h3⟩:=e s x hx; ⟨v,h1,h2,fun h=>(h3 h).dC hu hb⟩
theorem bE.dC {B b b' r r' x}(hu:nv w w' r)(hb:C.β b=I r)(bG:r'≠r)(h:bE P C ω w B b' r' x):bE P C ω w' B b' r' x:=by
 have hg:=hu.other r' bG
 cases x with
 |hole=>exact h
 |cells ez=>
  obtain⟨vs,elem,h1,h2,h3⟩:=h
  exact⟨vs,elem,by rw[hg];exact h1,h2,fun j c hc=>let ⟨v,a,q,b,d⟩:=h3 j c hc; ⟨v,a,q,b,fun e=>(d e).dC hu hb⟩⟩
 |map es=>obtain⟨b9,clock,h1,h2⟩:=h;exact⟨b9,clock,by rw[hg];exact h1,h2⟩
 |iter s pos=>show w'.heap[r']?=_;rw[hg];exact h
 |loop l=>obtain⟨lp,h1,h2⟩:=h;exact⟨lp,by rw[hg];exact h1,h2⟩
 |fV t e l=>obtain⟨p,v,h1,h2,h3,h4⟩:=h;exact⟨p,v,by rw[hg];exact h1,h2,h3,h4.dC hu hb⟩
 |dead=>obtain⟨cs,t,h1⟩:=h;exact⟨cs,t,by rw[hg];exact h1⟩
 |vec sz bJ xs=>exact ea.imp (fun _ _ _ h=>h) (fun _ h=>h) (fun _ h _=>h) hg (fun q n cap k=>⟨hu.other q (fun hq=>k.2.2.1 b (by rw[hb];exact congrArg I hq.symm)),k.dC hu hb⟩) h
theorem az.dO {ω'}(m:az P C ω w0 C0 hp w){b r}(hu:nv w w' r)(hb:C.β b=I r)(x':bg)(hω:∀b' j y v,b'≠b→aJ C ω w w0.heap.size (.cell b' j) y v→aJ C ω' w w0.heap.size (.cell b' j) y v)
  (gH:bE P C ω' w' w0.heap.size b r x'):az P C ω' w0 C0 (hp.set b x') w':=by
 have hfr:=m.fresh b r hb
 have qV:w.heap[r]?≠I (.deferred (I [])):=by
  obtain⟨x,hx⟩:=Gq (m.lt b r hb).2▸(⟨_,rfl⟩:∃x,I (hp[b]'(m.lt b r hb).2)=I x)
  have h0:=m.box b x r hx hb
  intro h
  cases x with
  |hole=>exact h0
  |cells cs=>obtain⟨vs,elem,h1,_⟩:=h0;rw[h]at h1;cases h1
  |map es=>obtain⟨b9,clock,h1,_⟩:=h0;rw[h]at h1;cases h1
  |iter s pos=>have h1:w.heap[r]?=_:=h0;rw[h]at h1;cases h1
  |loop l=>obtain⟨lp,h1,_⟩:=h0;rw[h]at h1;cases h1
  |fV t e l=>obtain⟨p,v,h1,_⟩:=h0;rw[h]at h1;cases h1
  |dead=>obtain⟨cs,t,h1⟩:=h0;rw[h]at h1;cases h1
  |vec sz bJ xs=>obtain⟨_,_,_,_,_,_,cs,t,h1⟩:=h0;rw[h]at h1;cases h1
 refine { base:=m.base,know:=?_,de:=m.de,apart:=m.apart,inj:=m.inj,lt:=?_,size:=?_,frame:=?_,fo:=?_,os:=hu.os.trans m.os,output:=hu.output.trans m.output,fresh:=m.fresh,grown:=m.grown,old:=m.old,box:=?_,iA:=fun q hq=>by rw[hu.size];exact m.iA q hq }
 ·intro k p v hk
  have bG:k≠r:=fun h=>by rw[h,m.apart b r p hb]at hk;cases hk
  have hc:=m.know _ _ _ hk
  simp only[World.cell?]at hc ⊢
  rw[hu.other k bG]
  exact hc
 ·intro k p hk
  rw[hu.size,Lf];exact m.lt k p hk
 ·rw[hu.size];exact m.size
 ·intro k hk hn hw
  by_cases ij:k=r
  ·subst ij
   rcases hfr with h|h|h
   ·exact absurd h (hn b)
   ·omega
   ·exact absurd h hw
  ·rw[hu.other k ij];exact m.frame k hk hn hw
 ·intro k hk
  have ij:k≠r:=fun h=>qV (h▸m.fo k hk)
  rw[hu.other k ij];exact m.fo k hk
 ·intro k x p hx hk
  by_cases kJ:k=b
  ·subst kJ
   rw[hb]at hk
   cases hk
   rw[G7 (m.lt k _ hb).2]at hx
   cases hx
   exact gH
  ·rw[Ih (N7 kJ)]at hx
   have qQ:p≠r:=fun h=>kJ (m.inj k b p hk (h▸hb))
   have h0:=m.box k x p hx hk
   exact((h0.dC hu hb qQ).mono (ω':=ω') (aI.le_refl C) (fun j y v ho=>by
    have:=hω k j y v kJ
    -- the ownerships of other boxes,in the new world
    unfold aJ at ho this ⊢
    split at ho
    ·obtain⟨h1,h2,h3,h4,h8,⟨cells,elem,h5,h6⟩,h7⟩:=ho
     rename_i ad len cap
     have lL:ad.block≠r:=fun h=>h3 b (h▸hb)
     rw[hu.other _ lL]at h5
     obtain⟨k1,_⟩:=this ⟨h1,h2,h3,h4,h8,⟨cells,elem,h5,h6⟩,h7⟩
     exact⟨k1,h2,h3,h4,h8,⟨cells,elem,by rw[hu.other _ lL];exact h5,h6⟩,h7⟩
    ·obtain⟨h1,h2,h3,h4,h8,⟨cells,elem,h5,h6⟩,h7⟩:=ho
     rename_i ad
     have lL:ad.block≠r:=fun h=>h3 b (h▸hb)
     rw[hu.other _ lL]at h5
     obtain⟨k1,_⟩:=this ⟨h1,h2,h3,h4,h8,⟨cells,elem,h5,h6⟩,h7⟩
     exact⟨k1,h2,h3,h4,h8,⟨cells,elem,by rw[hu.other _ lL];exact h5,h6⟩,h7⟩
    ·trivial))
theorem bE.read {B b r off n cs us}(h:bE P C ω w B b r (.cells cs))(hl:zj cs off n=I us):
  ∃vs,aS C us vs∧us.length=n∧vs.length=n∧(∀j v,vs[j]?=I v→w.cell? ⟨r,off+j,E3⟩=I v)∧∀v∈vs,v.oneCell'=Gc:=by
 unfold zj at hl
 cases hb:R8 (off+n) cs.length with
 |false=>simp[hb]at hl
 |true=>
  simp only[hb,cond_true,I.injEq]at hl
  subst hl
  have hle:=Jy hb
  obtain⟨vs,elem,h1,h2,h3⟩:=h
  have key:∀(n off:Nat),off+n≤cs.length→∃ws:List Value,aS C (((cs.drop off).take n).map (·.1)) ws∧ws.length=n∧∀j v,ws[j]?=I v→vs[off+j]?=I v∧v.oneCell'=Gc:=by
   intro n
   induction n with
   |zero=>intro off _;exact⟨[],by simpa using aB.nil,rfl,by simp⟩
   |succ n ih=>
    intro off hle
    obtain⟨ws,i1,i2,i3⟩:=ih (off+1) (by omega)
    have bw:off<cs.length:=by omega
    obtain⟨v,j1,j2,j3,_⟩:=h3 off cs[off] (Gq bw)
    refine⟨v::ws,?_,by simp[i2],?_⟩
    ·rw[List.drop_eq_getElem_cons bw]
     exact .cons _ _ _ _ j3 i1
    ·intro j u hj
     cases j with
     |zero=>simp at hj;subst hj;exact⟨j1,j2⟩
     |succ j=>simp at hj;rw[show off+(j+1)=off+1+j from by omega];exact i3 j u hj
  obtain⟨ws,k1,k2,k3⟩:=key n off hle
  refine⟨ws,k1,by simp;omega,k2,?_,?_⟩
  ·intro j v hj
   have:=(k3 j v hj).1
   simp[World.cell?,h1,this]
  ·intro v hv
   obtain⟨j,hj⟩:=Nj hv
   exact(k3 j v hj).2
theorem FD {t:TypeId}{n r off vs}(hg:yo P t=I Gc)(hn:jp P t=I n)(hl:vs.length=n)(hc:∀j v,vs[j]?=I v→w.cell? ⟨r,off+j,E3⟩=I v):
  (loadVar t ⟨r,off,E3⟩).run P w=.ok (.agg ⟨vs⟩) w:=by
 have:=run_loadCells_list (P:=P) w ⟨r,off,E3⟩ vs (fun j v hj=>by rw[add_lit];exact hc j v hj)
 rw[hl]at this
 simp[loadVar,DB hg,yl hn,this]
theorem FE {t:TypeId}{r off v}(hg:yo P t=I Ga)(hc:w.cell? ⟨r,off,E3⟩=I v):(loadVar t ⟨r,off,E3⟩).run P w=.ok v w:=by
 simp[loadVar,DB hg,hc]
theorem Q6 (m:az P C ω w0 C0 hp w)(he:bn C env a.tmps){t:TypeId}{x x' n ag p v}(ho:o.op=.load t x)(hg:yo P t=I ag)(hn:jp P t=I n)(FF:ag=Ga→n=1)(h1:qt x=I x')(e1:qi env x'=I p)
  (hv:(∃b q cs us,p=.ptr b q∧jw hp b=I cs∧zj cs q n=I us∧((ag=Gc∧v=.agg us)∨(ag=Ga∧us=[v])))∨(p=.ah v∧Bool.xor ag v.isAgg=Ga∧v.flat.length=n)):Val P C a o w v:=by
 rcases hv with⟨b,q,cs,us,rfl,lv,hl,hv⟩|⟨rfl,hx,wz⟩
 ·obtain⟨r,hr,hq⟩:=(qv he h1 e1).dj
  have gI:hp[b]?=I (.cells cs):=by
   unfold jw at lv
   split at lv
   ·rename_i ez h;cases lv;exact h
   ·cases lv
  obtain⟨vs,k1,_,k2,k3,_⟩:=(m.box b _ r gI hr).read hl
  rcases hv with⟨rfl,rfl⟩|⟨rfl,rfl⟩
  ·exact⟨.agg ⟨vs⟩,by simp[execOp,ho,Instr.loadAt,hq,Instr.sureAddr,FD hg hn k2 k3],.agg _ _ k1⟩
  ·cases k1 with
   |cons _ _ u us hu kH=>
    cases kH
    refine⟨u,?_,hu⟩
    have:=FE (P:=P) hg (by simpa using k3 0 u rfl)
    simp[execOp,ho,Instr.loadAt,hq,Instr.sureAddr,this]
 ·obtain⟨r,q,hq,hc⟩:=(qv he h1 e1).eQ
  obtain⟨vs,k1,k2⟩:=cu.vals hc
  have hl:vs.length=n:=by rw[k1.length,wz]
  have k3:∀j u,vs[j]?=I u→w.cell? ⟨r,q+j,E3⟩=I u:=fun j u hj=>m.know _ _ _ (k2 j u hj)
  cases ag with
  |true=>
   cases v<;>simp[AVal.isAgg]at hx
   exact⟨.agg ⟨vs⟩,by simp[execOp,ho,Instr.loadAt,hq,Instr.sureAddr,FD hg hn hl k3],.agg _ _ k1⟩
  |false=>
   rw[qby (by simpa using hx)]at k1
   cases k1 with
   |cons _ _ u us hu kH=>
    cases kH
    refine⟨u,?_,hu⟩
    have:=FE (P:=P) hg (by simpa using k3 0 u rfl)
    simp[execOp,ho,Instr.loadAt,hq,Instr.sureAddr,this]
def aI.box (C:aI)(b r:Nat):aI:={ C with β:=fun k=>if k=b then I r else C.β k }
theorem aI.kK {b r}(h:C.β b=E3):C.le (C.box b r):=
 ⟨fun _ _ _ h=>h,fun k p hk=>by
  simp only[aI.box]
  rw[if_neg (fun hb=>by rw[hb,h]at hk;cases hk)]
  exact hk,rfl,fun _ h=>h,fun _ h=>h⟩
theorem aJ.box {B b r ℓ x v}(hr:w.heap.size≤r∨ω r≠I ℓ)(ho:aJ C ω w B ℓ x v):aJ (C.box b r) ω w B ℓ x v:=by
 unfold aJ at *
 split at ho
 ·rename_i ad len cap
  obtain⟨h1,h2,h3,h4,h8,⟨cells,elem,h5,h6⟩,h7⟩:=ho
  have bw:ad.block<w.heap.size:=(Gx.1 h5).1
  refine⟨h1,h2,fun k hk=>?_,h4,h8,⟨cells,elem,h5,h6⟩,h7⟩
  simp only[aI.box]at hk
  split at hk
  ·have iC:r=ad.block:=I.inj hk
   rcases hr with hr|hr
   ·omega
   ·exact hr (iC▸h1)
  ·exact h3 k hk
 ·rename_i ad
  obtain⟨h1,h2,h3,h4,h8,⟨cells,elem,h5,h6⟩,h7⟩:=ho
  have bw:ad.block<w.heap.size:=(Gx.1 h5).1
  refine⟨h1,h2,fun k hk=>?_,h4,h8,⟨cells,elem,h5,h6⟩,h7⟩
  simp only[aI.box]at hk
  split at hk
  ·have iC:r=ad.block:=I.inj hk
   rcases hr with hr|hr
   ·omega
   ·exact hr (iC▸h1)
  ·exact h3 k hk
 ·trivial
theorem yz {h0 rk x h'}(h:aK h0 hp rk x=I h'):hp[h0+rk]?=I .hole∧h'=hp.set (h0+rk) x:=by
 unfold aK at h
 split at h
 ·rename_i hh;cases h;exact⟨hh,rfl⟩
 ·cases h
theorem FG (m:az P C ω w0 C0 hp w){b}(h:hp[b]?=I .hole):C.β b=E3:=by
 cases hb:C.β b with
 |none=>rfl
 |some r=>exact(m.box b .hole r h hb).elim
theorem az.aK (m:az P C ω w0 C0 hp w)(e:aq C ω w w0.heap.size env tmps){b}(hh:hp[b]?=I .hole)(obj:Obj)(Q7:∀c t fr,obj=.cells c t fr→fr=(0,0))(x:bg)
  (gH:∀C' ω' w',C.le C'→w'.heap[w.heap.size]?=I obj→bE P C' ω' w' w0.heap.size b w.heap.size x):
  az P (C.box b w.heap.size) ω w0 C0 (hp.set b x) (w.alloc obj)∧aq (C.box b w.heap.size) ω (w.alloc obj) w0.heap.size env tmps∧C.le (C.box b w.heap.size):=by
 have hx:Ext w (w.alloc obj):=Ext.alloc w obj Q7
 have hβ:=FG m hh
 have hle:=aI.kK (C:=C) (r:=w.heap.size) hβ
 have m':=m.ext hx
 have bw:b<hp.length:=(Gi.1 hh).1
 refine⟨{ m' with apart:=?_,inj:=?_,lt:=?_,fresh:=?_,grown:=aI.le_trans m.grown hle,box:=?_ },?_,hle⟩
 ·intro k r q hk
  simp only[aI.box]at hk
  split at hk
  ·cases hk;exact m.jR _ (Gm _) q
  ·exact m.apart k r q hk
 ·intro k k' r hk eJ
  simp only[aI.box]at hk eJ
  split at hk<;>split at eJ
  ·rename_i h1 h2;rw[h1,h2]
  ·cases hk;have:=(m.lt k' _ eJ).1;omega
  ·cases eJ;have:=(m.lt k _ hk).1;omega
  ·exact m.inj k k' r hk eJ
 ·intro k r hk
  rw[Lf]
  simp only[aI.box]at hk
  split at hk
  ·rename_i h1;cases hk;subst h1;exact⟨by rw[World.size_alloc];omega,bw⟩
  ·have:=m.lt k r hk;exact⟨by rw[World.size_alloc];omega,this.2⟩
 ·intro k r hk
  simp only[aI.box]at hk
  split at hk
  ·cases hk;exact .inr (.inl m.size)
  ·exact m.fresh k r hk
 ·intro k y r hy hk
  simp only[aI.box]at hk
  split at hk
  ·rename_i h1
   subst h1
   cases hk
   rw[G7 bw]at hy
   cases hy
   exact gH _ _ _ hle (by rw[wx,if_pos rfl])
  ·rename_i h1
   rw[Ih (N7 h1)]at hy
   exact((m.box k y r hy hk).mono (ω':=ω) hle fun j z v ho=>ho.box (.inl (Gm _))).ext hx
 ·exact fun s y hy=>let ⟨v,h1,h2,h3⟩:=e s y hy; ⟨v,h1,aB.mono hle h2,fun h=>((h3 h).box (.inl (Gm _))).ext hx⟩
theorem aJ.FH {B b r ℓ x v}(hr:∀cs t fr,w.heap[r]?≠I (.cells cs t fr))(ho:aJ C ω w B ℓ x v):aJ (C.box b r) ω w B ℓ x v:=by
 unfold aJ at *
 split at ho
 ·rename_i ad len cap
  obtain⟨h1,h2,h3,h4,h8,⟨cells,elem,h5,h6⟩,h7⟩:=ho
  refine⟨h1,h2,fun k hk=>?_,h4,h8,⟨cells,elem,h5,h6⟩,h7⟩
  simp only[aI.box]at hk
  split at hk
  ·have iC:r=ad.block:=I.inj hk
   exact absurd (iC▸h5) (hr _ _ _)
  ·exact h3 k hk
 ·rename_i ad
  obtain⟨h1,h2,h3,h4,h8,⟨cells,elem,h5,h6⟩,h7⟩:=ho
  refine⟨h1,h2,fun k hk=>?_,h4,h8,⟨cells,elem,h5,h6⟩,h7⟩
  simp only[aI.box]at hk
  split at hk
  ·have iC:r=ad.block:=I.inj hk
   exact absurd (iC▸h5) (hr _ _ _)
  ·exact h3 k hk
 ·trivial
theorem az.FI (m:az P C ω w0 C0 hp w)(e:aq C ω w w0.heap.size env tmps){b q es b9 clock}(hh:hp[b]?=I .hole)(hg:w.heap[q]?=I (.map b9 clock))(hq:∀k,C.β k≠I q)(hb:w0.heap.size≤q)(hr:cB C es b9.toList):
  az P (C.box b q) ω w0 C0 (hp.set b (.map es)) w∧aq (C.box b q) ω w w0.heap.size env tmps∧C.le (C.box b q):=by
 have hβ:=FG m hh
 have hle:=aI.kK (C:=C) (r:=q) hβ
 have bw:b<hp.length:=(Gi.1 hh).1
 have lA:∀cs t fr,w.heap[q]?≠I (.cells cs t fr):=fun cs t fr h=>by rw[hg]at h;cases h
 refine⟨{ m with apart:=?_,inj:=?_,lt:=?_,fresh:=?_,grown:=aI.le_trans m.grown hle,box:=?_ },?_,hle⟩
 ·intro k r o hk
  simp only[aI.box]at hk
  split at hk
  ·cases hk
   show C.K q o=E3
   cases hK:C.K q o with
   |none=>rfl
   |some v=>
    have:=m.know q o v hK
    simp[World.cell?,hg]at this
  ·exact m.apart k r o hk
 ·intro k k' r hk eJ
  simp only[aI.box]at hk eJ
  split at hk<;>split at eJ
  ·rename_i h1 h2;rw[h1,h2]
  ·cases hk;exact absurd eJ (hq k')
  ·cases eJ;exact absurd hk (hq k)
  ·exact m.inj k k' r hk eJ
 ·intro k r hk
  rw[Lf]
  simp only[aI.box]at hk
  split at hk
  ·rename_i h1;cases hk;subst h1;exact⟨(Gx.1 hg).1,bw⟩
  ·exact m.lt k r hk
 ·intro k r hk
  simp only[aI.box]at hk
  split at hk
  ·cases hk;exact .inr (.inl hb)
  ·exact m.fresh k r hk
 ·intro k y r hy hk
  simp only[aI.box]at hk
  split at hk
  ·rename_i h1
   subst h1
   cases hk
   rw[G7 bw]at hy
   cases hy
   exact⟨b9,clock,hg,hr.mono hle⟩
  ·rename_i h1
   rw[Ih (N7 h1)]at hy
   exact(m.box k y r hy hk).mono (ω':=ω) hle fun j z v ho=>ho.FH lA
 ·exact fun s y hy=>let ⟨v,h1,h2,h3⟩:=e s y hy; ⟨v,h1,aB.mono hle h2,fun h=>(h3 h).FH lA⟩
theorem Q9 {xs vs}{t:TypeId}{B b r cells}(hr:aS C xs vs)(hs:∀x∈xs,qk x=Gc)(hv:∀(j:Nat) v,vs[j]?=I v→cells[j]?=I v)(hl:xs.length≤cells.size):
  ∀C' ω' w',C.le C'→w'.heap[r]?=I (.cells cells t (0,0))→bE P C' ω' w' B b r (.cells (cellsOf xs)):=by
 intro C' ω' w' hle hg
 refine⟨cells,t,hg,by simpa[cellsOf]using hl,?_⟩
 intro j c hc
 simp only[cellsOf,Jq,En]at hc
 obtain⟨x,hx,rfl⟩:=hc
 obtain⟨v,h1,h2⟩:=hr.get hx
 exact⟨v,hv j v h1,QY h2 (hs x (Hb hx)),aB.mono hle h2,by simp⟩
theorem jew (m:az P C ω w0 C0 hp w)(e:aq C ω w w0.heap.size env a.tmps){t:TypeId}{z h0 rk h'}(ho:o.op=.alloc t)(hz:yr P t=I z)(hs:∀x∈z,qk x=Gc)(hn:aK h0 hp rk (.cells (cellsOf z))=I h'):
  ∃v w',(execOp a.eval o).run P w=.ok (.value v) w'∧zo P C0 w0 C a.tmps d env ⟨.ptr (h0+rk) 0,Ga,E3,h'⟩ v w':=by
 obtain⟨hh,rfl⟩:=yz hn
 obtain⟨_,zv,lq,cK,lJ⟩:=vh (C:=C) hz
 obtain⟨m',e',hle⟩:=m.aK e hh (.cells zv.cells t) (fun c t fr h=>by cases h;rfl) (.cells (cellsOf z)) (Q9 cK hs (fun j v h=>by simpa using h) (by have:=cK.length;simp at this;omega))
 refine⟨.pointer (I ⟨w.heap.size,0,E3⟩),_,?_,_,_,hle,m',e',.ptr _ _ _ (by simp[aI.box]),by simp⟩
 simp[execOp,ho,Instr.alloc,lq,newVar,newRow]
theorem jqx (m:az P C ω w0 C0 hp w)(e:aq C ω w w0.heap.size env a.tmps){t:TypeId}{x x' v h0 rk h'}(ho:o.op=.box t x)(h1:qt x=I x')(e1:qi env x'=I v)(hs:v.flat.all qk=Gc)
  (hn:aK h0 hp rk (.cells (cellsOf v.flat))=I h'):
  ∃v w',(execOp a.eval o).run P w=.ok (.value v) w'∧zo P C0 w0 C a.tmps d env ⟨.ptr (h0+rk) 0,Ga,E3,h'⟩ v w':=by
 obtain⟨hh,rfl⟩:=yz hn
 have hr:=As (qv e.cm h1 e1) hs
 obtain⟨m',e',hle⟩:=m.aK e hh (.cells (a.eval x).cells t) (fun c t fr h=>by cases h;rfl) (.cells (cellsOf v.flat)) (Q9 hr (by simpa using hs) (fun j v h=>by simpa using h) (by have:=hr.length;simp at this;omega))
 refine⟨.pointer (I ⟨w.heap.size,0,E3⟩),_,?_,_,_,hle,m',e',.ptr _ _ _ (by simp[aI.box]),by simp⟩
 simp[execOp,ho,Instr.box,newVar,newRow]
theorem jf7 (m:az P C ω w0 C0 hp w)(e:aq C ω w w0.heap.size env a.tmps){t:TypeId}{x x' v}(ho:o.op=.box t x)(h1:qt x=I x')(e1:qi env x'=I v)(hs:v.flat.all qk=Gc):
  ∃u w',(execOp a.eval o).run P w=.ok (.value u) w'∧zo P C0 w0 C a.tmps d env ⟨.ah v,Ga,E3,hp⟩ u w':=by
 have hr:=As (qv e.cm h1 e1) hs
 have hx:Ext w (w.alloc (.cells (a.eval x).cells t)):=Ext.alloc w _ (fun c t fr h=>by cases h;rfl)
 have hn:∀o,0≤o→C.K w.heap.size o=E3:=fun o _=>m.jR _ (Gm _) o
 have m':=m.newRow (a.eval x).cells t (a.eval x).cells.toList (fun j v h=>by simpa using h) (Av hr (fun y hy=>N9.1 hs y hy))
 refine⟨.pointer (I ⟨w.heap.size,0,E3⟩),_,?_,_,ω,aI.gE _ hn,m',(e.put _ (.inl (Gm _)) hn).ext hx,.ah _ _ _ (aI.fg hn hr),by simp⟩
 simp[execOp,ho,Instr.box,newVar,newRow]
theorem jqa (m:az P C ω w0 C0 hp w)(e:aq C ω w w0.heap.size env a.tmps){t:TypeId}{e' sz h0 rk h'}(ho:o.op=.alloc t)(hz:yr P t=I [.bZ,.list Gc sz []])(hn:aK h0 hp rk (.fV t e' [])=I h'):
  ∃v w',(execOp a.eval o).run P w=.ok (.value v) w'∧zo P C0 w0 C a.tmps d env ⟨.ptr (h0+rk) 0,Ga,E3,h'⟩ v w':=by
 obtain⟨hh,rfl⟩:=yz hn
 obtain⟨_,zv,lq,cK,lJ⟩:=vh (C:=C) hz
 have hzc:zv.cells=#[.pointer E3,.slice E3 0 0]:=by
  apply G6
  generalize zv.cells.toList=vs at cK
  cases cK with
  |cons _ _ v vs h1 h2=>
   cases h2 with
   |cons _ _ u us h3 h4=>
    cases h4
    cases h1
    cases h3
    rfl
 obtain⟨m',e',hle⟩:=m.aK e hh (.cells zv.cells t) (fun c t fr h=>by cases h;rfl) (.fV t e' []) (fun C' ω' w' _ hg=>⟨.pointer E3,.slice E3 0 0,by rw[hzc]at hg;exact hg,.inl rfl,.inl ⟨rfl,rfl⟩,trivial⟩)
 refine⟨.pointer (I ⟨w.heap.size,0,E3⟩),_,?_,_,_,hle,m',e',.ptr _ _ _ (by simp[aI.box]),by simp⟩
 simp[execOp,ho,Instr.alloc,lq,newVar,newRow]
theorem jdu (m:az P C ω w0 C0 hp w)(e:aq C ω w w0.heap.size env a.tmps){t:TypeId}{h0 rk h'}(ho:o.op=.makeMap t E3)(hn:aK h0 hp rk (.map [])=I h'):
  ∃v w',(execOp a.eval o).run P w=.ok (.value v) w'∧zo P C0 w0 C a.tmps d env ⟨.map (h0+rk),Ga,E3,h'⟩ v w':=by
 obtain⟨hh,rfl⟩:=yz hn
 obtain⟨m',e',hle⟩:=m.aK e hh (.map #[] 0) (fun c t fr h=>by cases h) (.map []) (fun C' ω' w' _ hg=>⟨#[],0,hg,.nil⟩)
 refine⟨.map (I w.heap.size),_,?_,_,_,hle,m',e',.map _ _ (by simp[aI.box]),by simp⟩
 simp[execOp,ho,Instr.makeMap]
theorem jc2 (m:az P C ω w0 C0 hp w)(e:aq C ω w w0.heap.size env a.tmps){t:TypeId}{x x' s h0 rk h'}(ho:o.op=.range t x)(ht:P.underlying t=I .string)(h1:qt x=I x')(e1:qi env x'=I (.str s))(hn:aK h0 hp rk (.iter s 0)=I h'):
  ∃v w',(execOp a.eval o).run P w=.ok (.value v) w'∧zo P C0 w0 C a.tmps d env ⟨.ptr (h0+rk) 0,Ga,E3,h'⟩ v w':=by
 obtain⟨hh,rfl⟩:=yz hn
 have hs:=(qv e.cm h1 e1).cq
 obtain⟨m',e',hle⟩:=m.aK e hh (.stringIter ⟨⟨s⟩⟩ 0) (fun c t fr h=>by cases h) (.iter s 0) (fun C' ω' w' _ hg=>hg)
 refine⟨.pointer (I ⟨w.heap.size,0,E3⟩),_,?_,_,_,hle,m',e',.ptr _ _ _ (by simp[aI.box]),by simp⟩
 simp[execOp,ho,Instr.range,run_underlying ht,hs]
end
section
variable {P:Program}{C C0:aI}{ω:Nat→Option Loc}{w w' w0:World}{hp:qh}{env:Env}{a:Act}{o:Oper}{tmps:Array Value}{d:Loc}
def vk (ω:Nat→Option Loc)(x:AVal)(v:Value)(ℓ:Loc):Nat→Option Loc:=
 match x,v with
 | .list ..,.slice (I ad) _ _=>cI ω ad.block ℓ
 | .cT _,.pointer (I ad)=>cI ω ad.block ℓ
 |_,_=>ω
theorem xZ {B ℓ0 ℓ ℓ' x z cv u}(h0:aJ C ω w B ℓ0 x cv)(bG:ℓ≠ℓ0)(hz:aJ C ω w B ℓ z u):aJ C (vk ω x cv ℓ') w B ℓ z u:=by
 unfold vk
 split
 ·rename_i ad l c
  have hω:ω ad.block=I ℓ0:=h0.1
  exact hz.other (.inl (by rw[hω];intro h;exact bG (I.inj h).symm))
 ·rename_i n ad
  have hω:ω ad.block=I ℓ0:=h0.1
  exact hz.other (.inl (by rw[hω];intro h;exact bG (I.inj h).symm))
 ·exact hz
theorem K8 {B ℓ0 ℓ' x cv}(h0:aJ C ω w B ℓ0 x cv):aJ C (vk ω x cv ℓ') w B ℓ' x cv:=by
 unfold vk
 split
 ·exact⟨by simp[cI],h0.2⟩
 ·exact⟨by simp[cI],h0.2⟩
 ·rename_i h1 h2
  unfold aJ
  split
  ·exact absurd rfl (h1 _ _ _ _ _ _ rfl)
  ·exact absurd rfl (h2 _ _ rfl)
  ·trivial
theorem wA {b cs}(h:jw hp b=I cs):hp[b]?=I (.cells cs):=by
 unfold jw at h
 split at h
 ·rename_i ez h';cases h;exact h'
 ·cases h
theorem AB {b x h'}(h:jo hp b x=I h'):h'=hp.set b x:=by
 unfold jo at h
 cases hb:Tt b hp.length with
 |false=>simp[hb]at h
 |true=>simpa[hb]using h.symm
theorem bE.store {ω':Nat→Option Loc}{B b r off:Nat}{cs:List (AVal×Bool)}{us:List AVal}{news:List Value}{fl:List Bool}{vs:Array Value}{t:TypeId}(DE:fl.length=us.length)(hr:aS C us news)(h1:∀v∈news,v.oneCell'=Gc)
  (hl:off+us.length≤cs.length) (cS:cs.length≤vs.size) (hold:∀j c,cs[j]?=I c→∃v,vs[j]?=I v∧v.oneCell'=Gc∧bP C c.1 v∧(c.2=Gc→aJ C ω' w' B (.cell b j) c.1 v))
  (df:∀j u v,us[j]?=I u→news[j]?=I v→fl[j]?=I Gc→aJ C ω' w' B (.cell b (off+j)) u v)
  (hg:w'.heap[r]?=I (.cells (vs.toList.take off++news++vs.toList.drop (off+news.length)).toArray t (0,0))):
  bE P C ω' w' B b r (.cells (cs.take off++us.zip fl++cs.drop (off+us.length))):=by
 have nu:=hr.length
 refine⟨_,t,hg,?_,?_⟩
 ·simp;omega
 ·intro j c hc
  rw[If]at hc
  have e1:(St off cs).length=off:=by simp;omega
  have e2:(us.zip fl).length=us.length:=by simp[DE]
  have f1:(St off vs.toList).length=off:=by simp;omega
  simp only[Gr,If]
  by_cases hj:j<off
  ·rw[Gh (by omega),Ha hj]at hc
   obtain⟨v,a1,a2,a3,a4⟩:=hold j c hc
   exact⟨v,by rw[Gh (by omega),Ha hj,Gp];exact a1,a2,a3,a4⟩
  ·rw[Gl (by omega),e1]at hc
   by_cases hj2:j<off+us.length
   ·rw[Gh (by omega)]at hc
    have dK:=List.getElem?_zip_eq_some.1 hc
    obtain⟨v,a1,a2⟩:=hr.get dK.1
    refine⟨v,by rw[Gl (by omega),f1,Gh (by omega)];exact a1,h1 v (Hb a1),a2,fun hf=>?_⟩
    have:=df (j-off) c.1 v dK.1 a1 (by rw[dK.2,hf])
    rw[show off+(j-off)=j from by omega]at this
    exact this
   ·rw[Gl (by omega),e2,Ny]at hc
    rw[show off+us.length+(j-off-us.length)=j from by omega]at hc
    obtain⟨v,a1,a2,a3,a4⟩:=hold j c hc
    exact⟨v,by rw[Gl (by omega),f1,Gl (by omega),Ny,show off+news.length+(j-off-news.length)=j from by omega,Gp];exact a1,a2,a3,a4⟩
theorem jey (us:List AVal):us.zip (Gg us.length Ga)=us.map (·,Ga):=by
 induction us with
 |nil=>rfl
 |cons x us ih=>simp only[List.length_cons,Iy,List.zip_cons_cons,ih,Ts]
theorem q56 (m:az P C ω w0 C0 hp w)(e:aq C ω w w0.heap.size env tmps){b r off:Nat}{cs:List (AVal×Bool)}{us:List AVal}{news:List Value}(hb:hp[b]?=I (.cells cs))(hr:C.β b=I r)(gU:aS C us news)(h1:∀v∈news,v.oneCell'=Gc)(hl:off+us.length≤cs.length):
  ∃vs t,w.heap[r]?=I (.cells vs t (0,0))∧off+news.length≤vs.size ∧
   az P C ω w0 C0 (hp.set b (.cells (cs.take off++us.map (·,Ga)++cs.drop (off+us.length)))) (w.setRow r (vs.toList.take off++news++vs.toList.drop (off+news.length)).toArray) ∧
   aq C ω (w.setRow r (vs.toList.take off++news++vs.toList.drop (off+news.length)).toArray) w0.heap.size env tmps:=by
 obtain⟨vs,t,hg,cS,hold⟩:=m.box b _ r hb hr
 have hu:=Fv hg (vs.toList.take off++news++vs.toList.drop (off+news.length)).toArray
 have nu:=gU.length
 refine⟨vs,t,hg,by omega,m.dO hu.iH hr _ (fun b' j y v _ h=>h) ?_,e.dC hu.iH hr⟩
 rw[←jey]
 refine bE.store (by simp) gU h1 hl cS (fun j c hc=>?_) (fun j u v _ _ hf=>?_) (setRow_heap w r vs _ t (0,0) hg)
 ·obtain⟨v,a1,a2,a3,a4⟩:=hold j c hc
  exact⟨v,a1,a2,a3,fun h=>(a4 h).dC hu.iH hr⟩
 ·rw[List.getElem?_replicate]at hf;split at hf<;>cases hf
theorem Ra {t te:TypeId}{n r off v vs}(hn:jp P t=I n)(hl:v.cells.toList.length=n)(hg:w.heap[r]?=I (.cells vs te (0,0)))(cA:off+v.cells.toList.length≤vs.size)(h1:∀u∈v.cells.toList,u.oneCell'=Gc):
  (storeVar t ⟨r,off,E3⟩ v).run P w=.ok () (w.setRow r (vs.toList.take off++v.cells.toList++vs.toList.drop (off+v.cells.toList.length)).toArray):=by
 have b6:=run_storeCells_at (P:=P) r off te v.cells.toList 0 vs w hg (by simpa using cA) h1
 simp only[Se]at b6
 have:¬(v.cells.size≠n):=by simp at hl;simpa using hl
 simp only[storeVar,Sem.run_bind,yl hn,Result.andThen_ok,this,if_false,Sem.run_ite,b6]
theorem jdi (m:az P C ω w0 C0 hp w)(e:aq C ω w w0.heap.size env a.tmps){t:TypeId}{x y x' y' n b q v cs ez h'}(ho:o.op=.store t x y)(hn:jp P t=I n)
  (h1:qt x=I x') (h2:qt y=I y') (e1:qi env x'=I (.ptr b q)) (e2:qi env y'=I v) (lv:jw hp b=I cs) (wz:v.flat.length=n) (b6:jr cs q v.flat=I ez) (bD:jo hp b (.cells ez)=I h'):
  ∃w',(execOp a.eval o).run P w=.ok .skip w'∧zo P C0 w0 C a.tmps d env ⟨.undef,Ga,E3,h'⟩ undef w':=by
 obtain⟨r,hr,hq⟩:=(qv e.cm h1 e1).dj
 unfold jr at b6
 cases hb:(R8 (q+v.flat.length) cs.length&&v.flat.all qk)with
 |false=>simp[hb]at b6
 |true=>
  simp only[hb,cond_true,I.injEq]at b6
  simp only[Gw]at hb
  subst b6
  have ry:=As (qv e.cm h2 e2) hb.2
  have cW:=Av ry (by simpa using hb.2)
  obtain⟨vs,te,hg,cA,m',e'⟩:=q56 m e (wA lv) hr ry cW (Jy hb.1)
  obtain rfl:=AB bD
  have bF:=Ra (P:=P) hn (by rw[ry.length,wz]) hg cA cW
  exact⟨_,by simp[execOp,ho,Instr.storeAt,hq,Instr.sureAddr,bF],C,ω,aI.le_refl C,m',e',.undef,by simp⟩
theorem q2g (m:az P C ω w0 C0 hp w)(e:aq C ω w w0.heap.size env a.tmps){t:TypeId}{x y:Operand}{x' y':jt}{b q s:Nat}{v:AVal}{cs:List (AVal×Bool)}{h':qh}(ho:o.op=.store t x y)(hn:jp P t=I 1)
  (h1:qt x=I x') (h2:qt y=I y') (e1:qi env x'=I (.ptr b q)) (e2:qi env y'=I v) (lv:jw hp b=I cs) (hv:v.cJ=Gc) (bw:q<cs.length) (cQ:zq env y'=I s) (bD:jo hp b (.cells (cs.set q (v,Gc)))=I h'):
  ∃w',(execOp a.eval o).run P w=.ok .skip w'∧zo P C0 w0 C a.tmps d env ⟨.undef,Ga,I s,h'⟩ undef w':=by
 obtain⟨r,hr,hq⟩:=(qv e.cm h1 e1).dj
 have ry:=qv e.cm h2 e2
 obtain⟨qW,v0,hl⟩:=Fy cQ
 have iX:v0=v:=by subst qW;simp only[qi,hl]at e2;exact I.inj e2
 subst iX
 have jW:v0.flat=[v0]:=by cases v0<;>simp[AVal.cJ]at hv<;>rfl
 have hsc:qk v0=Gc:=by cases v0<;>simp[AVal.cJ]at hv<;>rfl
 have rf:=As ry (by rw[jW];simpa using hsc)
 rw[jW]at rf
 have cW:=Av rf (by simpa using hsc)
 have dY:(a.eval y).cells.toList=[a.eval y]:=by
  have:=QY ry hsc
  cases hh:a.eval y<;>simp[hh,Value.oneCell']at this<;>rfl
 obtain⟨cv,xX,K6,Ay⟩:=e s _ hl
 have oM:a.eval y=cv:=by
  have AE:qt y=I (.tmp s):=by rw[h2,qW]
  cases y with
  |tmp t'=>simp only[qt]at AE;cases AE;simp[Act.eval,Gs,xX]
  |const u=>simp only[qt]at AE;split at AE<;>cases AE
  |func f=>simp[qt]at AE
  |global g=>simp[qt]at AE
 obtain⟨vs,te,hg,cS,hold⟩:=m.box b _ r (wA lv) hr
 have hu:=Fv hg (vs.toList.take q++[a.eval y]++vs.toList.drop (q+1)).toArray
 have ie:(a.eval y).cells.toList.length=1:=by rw[dY];rfl
 have bF:=Ra (P:=P) (t:=t) (off:=q) hn ie hg (by omega) cW
 rw[ie,dY]at bF
 obtain rfl:=AB bD
 have x5:=Ay rfl
 have oh:∀ℓ z u,ℓ≠.slot s→aJ C ω w w0.heap.size ℓ z u→aJ C (vk ω v0 cv (.cell b q)) w w0.heap.size ℓ z u:=fun ℓ z u hℓ hz=>xZ x5 hℓ hz
 have df:aJ C (vk ω v0 cv (.cell b q)) w w0.heap.size (.cell b q) v0 cv:=K8 x5
 have hcs:cs.take q++[(v0,Gc)]++cs.drop (q+1)=cs.set q (v0,Gc):=by
  rw[List.set_eq_take_append_cons_drop,if_pos bw];simp
 refine⟨w.setRow r (vs.toList.take q++[a.eval y]++vs.toList.drop (q+1)).toArray,by simp only[execOp,ho,Instr.storeAt,Sem.run_bind,hq,Instr.sureAddr,Sem.run_pure,Result.andThen_ok,bF],C,vk ω v0 cv (.cell b q),aI.le_refl C,?_,?_,.undef,by simp⟩
 ·refine m.dO hu.iH hr _ (fun b' j z u fi hz=>oh _ z u (by simp) hz) ?_
  rw[←hcs]
  have hz:[(v0,Gc)]=[v0].zip [Gc]:=rfl
  rw[hz]
  refine bE.store (us:=[v0]) (fl:=[Gc]) (news:=[a.eval y]) rfl (by rw[←dY];exact rf) (by rw[←dY];exact cW) (by simp;omega) cS (fun j c hc=>?_) (fun j u v FJ od _=>?_) (setRow_heap w r vs _ te (0,0) hg)
  ·obtain⟨v,a1,a2,a3,a4⟩:=hold j c hc
   exact⟨v,a1,a2,a3,fun h=>(oh _ _ _ (by simp) (a4 h)).dC hu.iH hr⟩
  ·cases j with
   |zero=>
    simp at FJ od
    subst FJ;subst od
    have h3:=df.dC hu.iH hr
    exact oM▸h3
   |succ j=>simp at FJ
 ·intro t' x' fh
  by_cases lM:t'=s
  ·subst lM
   simp only[yc,hl,jj,R0,cond_true]at fh
   cases fh
   exact⟨cv,xX,K6,by simp⟩
  ·have iJ:jj t' env=I x':=by
    simp only[yc,hl,jj]at fh
    have:Gz s t'=Ga:=by
     cases hb:Gz s t' with
     |false=>rfl
     |true=>exact absurd (Gd hb).symm lM
    rw[this]at fh
    exact fh
   obtain⟨u,k1,k2,k3⟩:=e t' x' iJ
   exact⟨u,k1,k2,fun h=>(oh _ _ _ (by simp[lM]) (k3 h)).dC hu.iH hr⟩
end
section
variable {P:Program}{C C0:aI}{ω:Nat→Option Loc}{w w' w0:World}{hp:qh}{env:Env}{a:Act}{o:Oper}{tmps:Array Value}{d:Loc}
theorem q0s {s v ow}(hl:jj s env=I (v,ow)){t x}(hx:jj t (yc env (I s))=I x):(t=s∧x=(v,Ga))∨(t≠s∧jj t env=I x):=by
 simp only[yc,hl,jj]at hx
 cases hb:Gz s t with
 |true=>
  simp only[hb,cond_true,I.injEq]at hx
  exact .inl ⟨(Gd hb).symm,hx.symm⟩
 |false=>
  simp only[hb,cond_false]at hx
  refine .inr ⟨fun h=>?_,hx⟩
  subst h
  simp at hb
theorem jlg (m:az P C ω w0 C0 hp w)(e:aq C ω w w0.heap.size env a.tmps){s v ow}(ho:o.op=.move (.tmp s)∨o.op=.assign (.tmp s))(hl:jj s env=I (v,ow)):
  ∃u w',(execOp a.eval o).run P w=.ok (.value u) w'∧zo P C0 w0 C a.tmps d env ⟨v,ow,I s,hp⟩ u w':=by
 obtain⟨cv,h1,h2,h3⟩:=e s _ hl
 have gW:a.eval (.tmp s)=cv:=by simp[Act.eval,Gs,h1]
 have bF:(execOp a.eval o).run P w=.ok (.value cv) w:=by rcases ho with ho|ho<;>simp[execOp,ho,gW]
 refine⟨cv,w,bF,?_⟩
 by_cases hk:ow=Gc
 ·subst hk
  have cQ:=h3 rfl
  refine⟨C,vk ω v cv d,aI.le_refl C,?_,?_,h2,fun _=>K8 cQ⟩
  ·exact { m with box:=fun b x r hx hb=>(m.box b x r hx hb).mono (aI.le_refl C) fun j y u hz=>xZ cQ (by simp) hz }
  ·intro t x hx
   rcases q0s hl hx with⟨rfl,rfl⟩|⟨bG,fh⟩
   ·exact⟨cv,h1,h2,by simp⟩
   ·obtain⟨u,k1,k2,k3⟩:=e t x fh
    exact⟨u,k1,k2,fun h=>xZ cQ (by simpa using bG) (k3 h)⟩
 ·refine⟨C,ω,aI.le_refl C,m,e.strip _,h2,fun h=>absurd h hk⟩
theorem q3j (m:az P C ω w0 C0 hp w)(e:aq C ω w w0.heap.size env a.tmps){t:TypeId}{x x' b q v ow cs h'}(ho:o.op=.load t x)(da:yo P t=I Ga)
  (h1:qt x=I x') (e1:qi env x'=I (.ptr b q)) (lv:jw hp b=I cs) (hc:cs[q]?=I (v,ow)) (bD:jo hp b (.cells (cs.set q (v,Ga)))=I h'):
  ∃u w',(execOp a.eval o).run P w=.ok (.value u) w'∧zo P C0 w0 C a.tmps d env ⟨v,ow,E3,h'⟩ u w':=by
 obtain⟨r,hr,hq⟩:=(qv e.cm h1 e1).dj
 obtain⟨vs,te,hg,cS,hold⟩:=m.box b _ r (wA lv) hr
 obtain⟨cv,k1,k2,k3,k4⟩:=hold q _ hc
 obtain rfl:=AB bD
 have dY:w.cell? ⟨r,q,E3⟩=I cv:=by
  simp only[World.cell?,hg]
  simpa using k1
 have bF:(execOp a.eval o).run P w=.ok (.value cv) w:=by
  simp[execOp,ho,hq,Instr.loadAt,Instr.sureAddr,FE da dY]
 have hu:nv w w r:=⟨rfl,fun _ _=>rfl,fun c t fr h=>by rw[hg]at h;cases h;rfl,rfl,rfl⟩
 have gH:∀ω':Nat→Option Loc,(∀j c u,j≠q→aJ C ω w w0.heap.size (.cell b j) c u→aJ C ω' w w0.heap.size (.cell b j) c u)→bE P C ω' w w0.heap.size b r (.cells (cs.set q (v,Ga))):=by
  intro ω' hk
  refine⟨vs,te,hg,by simpa using cS,fun j c hj=>?_⟩
  rw[Sh]at hj
  split at hj
  ·rename_i Rb
   subst Rb
   split at hj
   ·cases hj;exact⟨cv,k1,k2,k3,by simp⟩
   ·cases hj
  ·rename_i Rb
   obtain⟨u,a1,a2,a3,a4⟩:=hold j c hj
   exact⟨u,a1,a2,a3,fun h=>hk _ _ _ (N7 Rb) (a4 h)⟩
 refine⟨cv,w,bF,?_⟩
 by_cases hk:ow=Gc
 ·subst hk
  have cQ:=k4 rfl
  refine⟨C,vk ω v cv d,aI.le_refl C,?_,?_,k3,fun _=>K8 cQ⟩
  ·exact m.dO hu hr _ (fun b' j y u fi hz=>xZ cQ (by simp[fi]) hz) (gH _ fun j c u hj hz=>xZ cQ (by simp[hj]) hz)
  ·exact fun t x hx=>let ⟨u,k1,k2,k3⟩:=e t x hx; ⟨u,k1,k2,fun h=>xZ cQ (by simp) (k3 h)⟩
 ·refine⟨C,ω,aI.le_refl C,m.dO hu hr _ (fun _ _ _ _ _ h=>h) (gH _ fun _ _ _ _ h=>h),e,k3,fun h=>absurd h hk⟩
end
section
variable {P:Program}{C C0:aI}{ω:Nat→Option Loc}{w w' w0:World}{hp:qh}{env:Env}{a:Act}{o:Oper}{tmps:Array Value}{d:Loc}
theorem qx3 (m:az P C ω w0 C0 hp w)(e:aq C ω w w0.heap.size env a.tmps){t el:TypeId}{x y:Operand}{x' y':jt}{n sz b h0 rk:Nat}{z h'}
  (ho:o.op=.makeSlice t x y) (ht:P.underlying t=I (.slice el)) (hn:jp P el=I sz) (hb:n6 P el=I b) (hz:yr P el=I z) (Rc:0<sz) (ig:z.length=sz)
  (h1:qt x=I x') (h2:qt y=I y') (e1:qi env x'=I (.int .i64 (n:Int))) (e2:qi env y'=I (.int .i64 (n:Int))) (hle:n≤1073741824) (jH:b≤4096)
  (df:aK h0 hp rk (.cells (cellsOf (Gg n z).flatten))=I h'):
  ∃v w',(execOp a.eval o).run P w=.ok (.value v) w'∧zo P C0 w0 C a.tmps d env ⟨.ms (h0+rk) 0 n,Ga,E3,h'⟩ v w':=by
 obtain⟨hh,rfl⟩:=yz df
 obtain⟨qM,zv,lq,cK,lJ⟩:=vh (C:=C) hz
 have ni:zv.cells.toList.length=sz:=by rw[cK.length,ig]
 have jT:((G8 (n*sz)).map (fun i=>zv.cells[i % zv.cells.size]!)).toList=(Gg n zv.cells.toList).flatten:=by
  have:=K4 ni Rc n
  simpa using this
 have r1:=(qv e.cm h1 e1).bQ
 have r2:=(qv e.cm h2 e2).bQ
 have ga:aS C (Gg n z).flatten ((G8 (n*sz)).map (fun i=>zv.cells[i % zv.cells.size]!)).toList:=by
  rw[jT];exact cK.replicate n
 obtain⟨i,hi,qR⟩:∃i,P.info? el=I i∧i.bytes=b:=by
  unfold n6 at hb
  cases hi:P.info? el with
  |none=>simp[hi]at hb
  |some i=>exact⟨i,rfl,by simpa[hi]using hb⟩
 have kI:i.size=sz:=by
  unfold jp at hn
  rw[hi]at hn
  simpa using hn
 have qS:IntKind.i64.wrap (n:Int)=n:=by
  rw[←Ap];unfold qe
  have:qH .i64 (n:Int)=Gc:=by simp[qH];exact Hd hle (by decide)
  rw[this];rfl
 have Am:b*n≤281474976710656:=Hd (J9 jH hle) (by decide)
 obtain⟨m',e',cO⟩:=m.aK e hh (.cells ((G8 (n*sz)).map (fun i=>zv.cells[i % zv.cells.size]!)) el) (fun c t fr h=>by cases h;rfl) (.cells (cellsOf (Gg n z).flatten))
  (Q9 ga (by
   intro x h
   rw[Oa]at h
   obtain⟨l,q1,q2⟩:=h
   obtain⟨_,rfl⟩:=Jn.1 q1
   exact qM x q2) (by intro j v h;rw[Gp]at h;exact h) (by have:=ga.length;simp at this;simp;omega))
 refine⟨.slice (I ⟨w.heap.size,0,E3⟩) n n,w.alloc (.cells ((G8 (n*sz)).map (fun i=>zv.cells[i % zv.cells.size]!)) el),?_,_,_,cO,m',e',.ms _ _ _ _ _ (by simp[aI.box]) (Gm _),by simp⟩
 have c1:¬((b:Int)*(n:Int) > 2^48):=by
  have h1:((b*n:Nat):Int)≤281474976710656:=Int.ofNat_le.2 Am
  rw[Int.natCast_mul]at h1
  have h2:(2:Int)^48=281474976710656:=by decide
  rw[h2];omega
 have c2:¬((n:Int)<0):=by omega
 have hr:G8 0=#[]:=rfl
 simp only[execOp,ho,Instr.makeSlice,Sem.run_bind,run_underlying ht,r1,r2,asInt,asIntOf,Sem.run_pure,Result.andThen_ok,typeInfo,run_program,hi,qR,qS,c2,c1,decide_false,Sn,G9,if_false,Int.lt_irrefl,gt_iff_lt,run_askRoom,Int.toNat_natCast,yl hn,newRow]
 by_cases Ar:n=0
 ·subst Ar
  simp[hr]
 ·have bG:¬(n*sz=0):=by
   intro h
   rcases R1.1 h with h|h<;>omega
  simp[bG,lq]
theorem j2i (m:az P C ω w0 C0 hp w)(e:aq C ω w w0.heap.size env tmps){b r s cells}{t:TypeId}{us news}(hh:hp[b]?=I .hole)(hω:ω r=I (.slot s))(hB:w0.heap.size≤r∨C.W r)(hβ:∀b,C.β b≠I r)
  (hg:w.heap[r]?=I (.cells cells t (0,0))) (hK:∀o,C.K r o=E3) (cA:news.length≤cells.size) (gU:aS C us news) (cW:∀v∈news,v.oneCell'=Gc):
  az P (C.box b r) ω w0 C0 (hp.set b (.cells (cellsOf us))) (w.setRow r (cells.toList.take 0++news++cells.toList.drop (0+news.length)).toArray) ∧
  aq (C.box b r) ω (w.setRow r (cells.toList.take 0++news++cells.toList.drop (0+news.length)).toArray) w0.heap.size (yc env (I s)) tmps∧C.le (C.box b r):=by
 have hu:=Fv hg (cells.toList.take 0++news++cells.toList.drop (0+news.length)).toArray
 have lN:=setRow_heap w r cells (cells.toList.take 0++news++cells.toList.drop (0+news.length)).toArray t (0,0) hg
 generalize w.setRow r (cells.toList.take 0++news++cells.toList.drop (0+news.length)).toArray=w' at hu lN
 have Rf:=FG m hh
 have hle:=aI.kK (C:=C) (r:=r) Rf
 have bw:b<hp.length:=(Gi.1 hh).1
 have Rg:r<w.heap.size:=(Gx.1 hg).1
 have cQ:∀ℓ x v,ℓ≠.slot s→aJ C ω w w0.heap.size ℓ x v→aJ (C.box b r) ω w' w0.heap.size ℓ x v:=by
  intro ℓ x v hℓ ho
  have bG:ω r≠I ℓ:=by rw[hω];intro h;exact hℓ (I.inj h).symm
  exact(ho.box (.inr bG)).iH hu bG
 refine⟨?_,?_,hle⟩
 ·refine { base:=m.base,know:=?_,de:=m.de,apart:=?_,inj:=?_,lt:=?_,size:=?_,frame:=?_,fo:=?_,os:=hu.os.trans m.os,output:=hu.output.trans m.output,fresh:=?_,grown:=aI.le_trans m.grown hle,old:=m.old,box:=?_,iA:=fun q hq=>by rw[hu.size];exact m.iA q hq }
  ·intro k q v hk
   have ij:k≠r:=fun h=>by
    have eJ:C.K k q=I v:=hk
    rw[h,hK q]at eJ;cases eJ
   have hc:=m.know _ _ _ hk
   simp only[World.cell?]at hc ⊢
   rw[hu.other k ij];exact hc
  ·intro k q p hk
   simp only[aI.box]at hk
   split at hk
   ·cases hk;exact hK p
   ·exact m.apart k q p hk
  ·intro k k' q hk eJ
   simp only[aI.box]at hk eJ
   split at hk<;>split at eJ
   ·rename_i h1 h2;rw[h1,h2]
   ·cases hk;exact absurd eJ (hβ k')
   ·cases eJ;exact absurd hk (hβ k)
   ·exact m.inj k k' q hk eJ
  ·intro k q hk
   rw[Lf,hu.size]
   simp only[aI.box]at hk
   split at hk
   ·rename_i h1;cases hk;subst h1;exact⟨Rg,bw⟩
   ·exact m.lt k q hk
  ·rw[hu.size];exact m.size
  ·intro k hk hn hw
   have ij:k≠r:=fun h=>by
    subst h
    rcases hB with h|h
    ·omega
    ·rw[m.grown.w]at h;exact hw h
   rw[hu.other k ij];exact m.frame k hk hn hw
  ·intro k hk
   have ij:k≠r:=fun h=>by
    subst h
    have:=m.fo k hk
    rw[hg]at this;cases this
   rw[hu.other k ij];exact m.fo k hk
  ·intro k q hk
   simp only[aI.box]at hk
   split at hk
   ·cases hk
    rcases hB with h|h
    ·exact .inr (.inl h)
    ·rw[m.grown.w]at h;exact .inr (.inr h)
   ·exact m.fresh k q hk
  ·intro k x q hx hk
   simp only[aI.box]at hk
   split at hk
   ·rename_i h1
    subst h1
    cases hk
    rw[G7 bw]at hx
    cases hx
    have nu:=gU.length
    refine⟨_,t,lN,by simp[cellsOf];omega,?_⟩
    intro j c hc
    simp only[cellsOf,Jq,En]at hc
    obtain⟨x,hx,rfl⟩:=hc
    obtain⟨v,h1,h2⟩:=gU.get hx
    have hj:j<news.length:=(Gi.1 h1).1
    refine⟨v,?_,cW v (Hb h1),aB.mono hle h2,by simp⟩
    simp only[List.take_zero,Nx,Gr]
    rw[Gh hj];exact h1
   ·rename_i h1
    rw[Ih (N7 h1)]at hx
    have bG:q≠r:=fun h=>hβ k (h▸hk)
    have lu:bE P C ω w' w0.heap.size k q x:=(m.box k x q hx hk).iH hu bG (fun j=>by rw[hω];simp)
    exact lu.mono hle fun j y v ho=>ho.box (.inr (by rw[hω];simp))
 ·intro t' x hx
  by_cases lM:t'=s
  ·subst lM
   simp only[yc]at hx
   cases hl:jj t' env with
   |none=>rw[hl]at hx;simp only[hl]at hx;cases hx
   |some y=>
    rw[hl]at hx
    simp only[jj,R0,cond_true]at hx
    cases hx
    obtain⟨v,h2,h3,_⟩:=e t' y hl
    exact⟨v,h2,aB.mono hle h3,by simp⟩
  ·have fh:jj t' env=I x:=by
    simp only[yc]at hx
    cases hl:jj s env with
    |none=>rw[hl]at hx;exact hx
    |some y=>
     rw[hl]at hx
     simp only[jj]at hx
     have:Gz s t'=Ga:=by
      cases hb:Gz s t' with
      |false=>rfl
      |true=>exact absurd (Gd hb).symm lM
     rw[this]at hx
     exact hx
   obtain⟨v,h2,h3,h4⟩:=e t' x fh
   exact⟨v,h2,aB.mono hle h3,fun h=>cQ _ _ _ (by simp[lM]) (h4 h)⟩
theorem q67 {xs vs}{t:TypeId}{B b r cells}(hr:aS C xs vs)(cW:∀v∈vs,v.oneCell'=Gc)(hv:∀(j:Nat) v,vs[j]?=I v→cells[j]?=I v)(hl:xs.length≤cells.size):
  ∀C' ω' w',C.le C'→w'.heap[r]?=I (.cells cells t (0,0))→bE P C' ω' w' B b r (.cells (cellsOf xs)):=by
 intro C' ω' w' hle hg
 refine⟨cells,t,hg,by simpa[cellsOf]using hl,?_⟩
 intro j c hc
 simp only[cellsOf,Jq,En]at hc
 obtain⟨x,hx,rfl⟩:=hc
 obtain⟨v,h1,h2⟩:=hr.get hx
 exact⟨v,hv j v h1,cW v (Hb h1),aB.mono hle h2,by simp⟩
theorem q0p (m:az P C ω w0 C0 hp w)(e:aq C ω w w0.heap.size env a.tmps){c}{t u el:TypeId}{ut:TypeDesc}{x y x' y' sz b h0 rk n c8 ys vy h'}
  (ho:o.op=.call c) (dU:c.callee=.builtin .append) (eg:c.args.toList=[x,y]) (eI:c.argTypes.toList=[t,u]) (ht:P.underlying t=I (.slice el)) (hu:P.underlying u=I ut) (jI:Ag ut=Gc)
  (hn:jp P el=I sz) (hb:n6 P el=I b) (h1:qt x=I x') (h2:qt y=I y') (e1:qi env x'=I (.list n c8 [])) (e2:qi env y'=I vy) (cN:zy sz vy=I ys)
  (cQ:(zq env x').isSome=Gc) (Rh:n=Ga) (hlen:ys.length≤1073741824) (jH:b≤4096) (hzero:∃z,yr P el=I z∧z.length=sz) (Az:sz=c8)
  (df:aK h0 hp rk (.cells (cellsOf (ys.flatMap AVal.flat)))=I h'):
  ∃v w',(execOp a.eval o).run P w=.ok (.value v) w'∧zo P C0 w0 C a.tmps d env ⟨.ms (h0+rk) 0 ys.length,Ga,zq env x',h'⟩ v w':=by
 obtain⟨hh,rfl⟩:=yz df
 subst Rh
 subst Az
 have ha:c.args=#[x,y]:=by apply G6;simpa using eg
 have lI:c.argTypes=#[t,u]:=by apply G6;simpa using eI
 obtain⟨i,hi,qR⟩:∃i,P.info? el=I i∧i.bytes=b:=by
  unfold n6 at hb
  cases hi:P.info? el with
  |none=>simp[hi]at hb
  |some i=>exact⟨i,rfl,by simpa[hi]using hb⟩
 have kI:i.size=sz:=by
  unfold jp at hn;rw[hi]at hn;simpa using hn
 obtain⟨z,hz,AA⟩:=hzero
 obtain⟨zv,nq⟩:∃zv,i.zero=I zv:=by
  unfold yr at hz;rw[hi]at hz
  cases hq:i.zero with
  |none=>simp[hq]at hz
  |some v=>exact⟨v,rfl⟩
 have rx:=qv e.cm h1 e1
 have ry:=qv e.cm h2 e2
 obtain⟨news,hs,cV,fM,cW⟩:=K5 m hu jI cN ry
 have eT:∀ {z:Value} {w':World},(Builtin.append_ #[t,u] o.type #[a.eval x,a.eval y]).run P w=.ok z w'→(execOp a.eval o).run P w=.ok (.value z) w':=by
  intro z w' h
  simp[execOp,ho,resolve,dU,ha,lI,invoke,builtin,h]
 have nu:news.length=ys.length*sz:=by rw[cV.length,ym ys fM]
 rcases rx.cU with⟨hh1,_,_⟩|⟨_,r,q,cap,hx,hle,db⟩|⟨_,_,ad,mC,hx⟩
 rotate_right
 ·exact absurd (q5c e h1 cQ e1 hx) mC
 ·cases hh1
 ·obtain⟨s,gV⟩:=Lg.1 cQ
  obtain⟨fh,v0,hl⟩:=Fy gV
  have iX:v0=.list Ga sz []:=by
   subst fh
   simp only[qi,hl]at e1
   exact I.inj e1
  subst iX
  obtain⟨cv,xX,K6,Ay⟩:=e s _ hl
  have oM:cv=.slice (I ⟨r,q,E3⟩) 0 cap:=by
   have iI:qt x=I (.tmp s):=by rw[h1,fh]
   cases x with
   |tmp t'=>
    simp only[qt]at iI
    cases iI
    have:a.eval (.tmp s)=cv:=by simp[Act.eval,Gs,xX]
    rw[←this,hx];rfl
   |const u=>simp only[qt]at iI;split at iI<;>cases iI
   |func f=>simp[qt]at iI
   |global g=>simp[qt]at iI
  subst oM
  obtain⟨hω,hB,hβ,_,K7,⟨cells,te,hg,cA⟩,hK⟩:=Ay rfl
  simp only at hω hB hβ hg cA hK K7
  subst K7
  simp only[List.length_nil]at hx
  by_cases ep:0+ys.length≤cap
  ·have gG:(0+ys.length)*sz≤cap*sz:=Gv _ ep
   have bF:=Q0 (P:=P) (w:=w) (ty:=o.type) ht hi r 0 0 cap (a.eval y) ys.length news (kI▸hs) ep hg (by rw[nu];simp at gG cA ⊢;omega)
   rw[←hx]at bF
   have e0:0+0*i.size=0:=by simp
   rw[e0]at bF
   obtain⟨m',e',cO⟩:=j2i (tmps:=a.tmps) m e hh hω hB hβ hg (fun o=>hK o (by simp)) (by rw[nu];simp at gG cA ⊢;omega) cV cW
   rw[gV]
   refine⟨_,_,eT bF,_,_,cO,m',e',?_,by simp⟩
   have:=aB.ms (C:=C.box (h0+rk) r) (h0+rk) 0 ys.length r cap (by simp[aI.box]) (by omega)
   simpa using this
  ·have FK:Builtin.nextslicecap (0+ys.length) cap*i.bytes≤281474976710656:=growslice_fits (by omega) (by
    rw[qR]
    exact Hd (J9 (by omega) jH) (by decide:2^30*4096≤_))
   have bF:=run_append_grow_src w t u o.type el i zv ht hi nq (I ⟨r,0,E3⟩) 0 cap [] (run_firstCells_some _ _ _ _ _ _ [] (by simp) (by simp)) (a.eval y) ys.length news (kI▸hs) (by omega) (by omega) FK
   rw[←hx]at bF
   have vj:=grownCap_ge w (0+ys.length) cap el
   have iJ:Ext w w.drew:=Ext.drew w
   obtain⟨m',e',cO⟩:=(m.ext iJ).aK (e.ext iJ) hh (.cells (([]++news).toArray++Builtin.zeroCells zv.cells (grownCap w (0+ys.length) cap el-(0+ys.length))) el) (fun c t fr h=>by cases h;rfl) (.cells (cellsOf (ys.flatMap AVal.flat)))
    (q67 cV cW (by
     intro j v hj
     rw[Hc (by simpa using(Gi.1 hj).1)]
     simpa using hj) (by have h5:=cV.length;rw[N8];simp only[Nx,Lr];omega))
   refine⟨_,_,eT bF,_,_,cO,m',e'.strip _,?_,by simp⟩
   have:=aB.ms (C:=C.box (h0+rk) w.drew.heap.size) (h0+rk) 0 ys.length w.drew.heap.size (grownCap w (0+ys.length) cap el) (by simp[aI.box]) (by omega)
   simpa using this
end
section
variable {P:Program}{C C0:aI}{ω:Nat→Option Loc}{w w' w0:World}{hp:qh}{env:Env}{a:Act}{o:Oper}{tmps:Array Value}{d:Loc}
theorem K9 {b bJ len v}(h:bP C (.ay b bJ len) v):∃r0 r cap,C.β b=I r0∧C.T (r0,bJ,r,cap)∧len≤cap∧v=.slice (I ⟨r,0,E3⟩) len cap:=by
 cases h with
 |ay _ _ _ r0 r cap hb ht hl=>exact⟨r0,r,cap,hb,ht,hl,rfl⟩
theorem q8k {b bJ off v}(h:bP C (.dH b bJ off) v):∃r0 r cap,C.β b=I r0∧C.T (r0,bJ,r,cap)∧v=.pointer (I ⟨r,off,E3⟩):=by
 cases h with
 |dH _ _ _ r0 r cap hb ht=>exact⟨r0,r,cap,hb,ht,rfl⟩
theorem qzl {t:TypeId}{x x' i fs f n b bJ q}(he:bn C env a.tmps)(ho:o.op=.fieldAddr t x i)(ht:P.underlying t=I (.struct fs))(hf:fs[i]?=I f)
  (hn:jp P f.type=I n) (Ar:0<n) (h1:qt x=I x') (e1:qi env x'=I (.dH b bJ q)):Val P C a o w (.dH b bJ (q+f.offset)):=by
 obtain⟨r0,r,cap,hb,hT,hq⟩:=q8k (qv he h1 e1)
 refine⟨.pointer (I ⟨r,q+f.offset,E3⟩),?_,.dH _ _ _ r0 r cap hb hT⟩
 simp[execOp,ho,Instr.fieldAt,run_underlying ht,hf,hq,Instr.sureAddr,fieldPlace,yl hn,Nat.pos_iff_ne_zero.1 Ar,add_lit]
theorem qyl {t e:TypeId}{x i x' i' sz iv b bJ len j}(he:bn C env a.tmps)(ho:o.op=.indexAddr t x i)(ht:P.underlying t=I (.slice e))
  (hn:jp P e=I sz) (h1:qt x=I x') (h2:qt i=I i') (e1:qi env x'=I (.ay b bJ len)) (e2:qi env i'=I iv) (hj:idx len iv=I j):Val P C a o w (.dH b bJ (j*sz)):=by
 obtain⟨r0,r,cap,hb,hT,_,hq⟩:=K9 (qv he h1 e1)
 obtain⟨k,rfl,bw⟩:=Ft hj
 have hi:=(qv he h2 e2).bQ
 refine⟨.pointer (I ⟨r,j*sz,E3⟩),?_,.dH _ _ _ r0 r cap hb hT⟩
 simp[execOp,ho,Instr.indexAt,run_underlying ht,hq,hi,asIntOf,yl hn,bw,add_lit]
theorem ja9 {t e:TypeId}{x lo hi x' lH fL sz j b bJ len}(he:bn C env a.tmps)(ho:o.op=.slice t x lo hi E3)(ht:P.underlying t=I (.slice e))
  (hn:jp P e=I sz) (h1:qt x=I x') (h2:nc lo=I lH) (h3:nc hi=I fL) (e1:qi env x'=I (.ay b bJ len)) (b2:fD env len len fL=I j) (b1:fD env 0 j lH=I 0):Val P C a o w (.ay b bJ j):=by
 obtain⟨r0,r,cap,hb,hT,hl,hq⟩:=K9 (qv he h1 e1)
 obtain⟨iC,k1,k2⟩:=K0 (P:=P) (isS:=true) he h2 h3 b2 b1 hl w
 refine⟨.slice (I ⟨r,0,E3⟩) j cap,?_,.ay _ _ _ r0 r cap hb hT (by omega)⟩
 simp[execOp,ho,Instr.sliceAt,Instr.slice,run_underlying ht,hq,iC,yl hn,add_lit]
theorem jh0 {c x}{t e:TypeId}{x' b bJ n}(he:bn C env a.tmps)(ho:o.op=.call c)(dU:c.callee=.builtin .len)(eg:c.args.toList=[x])(eI:c.argTypes.toList=[t])
  (h1:qt x=I x') (e1:qi env x'=I (.ay b bJ n)) (ht:P.underlying t=I (.slice e)):Val P C a o w (.int .i64 n):=by
 have ha:c.args=#[x]:=by apply G6;simpa using eg
 have lI:c.argTypes=#[t]:=by apply G6;simpa using eI
 refine⟨.int .i64 n,?_,.int _ _⟩
 simp only[execOp,ho,resolve,dU,ha,lI,Sem.run_bind,Sem.run_pure,Result.andThen_ok,invoke,builtin,Builtin.len_]
 obtain⟨r0,r,cap,_,_,_,hq⟩:=K9 (qv he h1 e1)
 simp[run_underlying ht,hq,goInt]
theorem jl5 (m:az P C ω w0 C0 hp w){b bJ q cap r0 sz xs}(hb:C.β b=I r0)(hT:C.T (r0,bJ,q,cap))(gI:hp[b]?=I (.vec sz bJ xs)):
  ∃vs,aS C (xs.flatMap AVal.flat) vs∧(∀(j:Nat) v,vs[j]?=I v→w.cell? ⟨q,j,E3⟩=I v∧v.oneCell'=Gc)∧en C.K w q sz xs cap:=by
 obtain⟨q',kL,k1,k2,k3,k4,_⟩:=m.box b _ r0 gI hb
 have heq:=(k2 _ hT rfl).2 rfl
 simp only[Prod.mk.injEq]at heq
 obtain⟨rfl,rfl⟩:=heq
 obtain⟨cells,t,vs,g1,g2,g3,g4,g5,g6,g7⟩:=id k3
 refine⟨vs,aB.imp (C:=.bV C.K) (C':=C) ⟨fun _ _ _ h=>h,fun b r h=>by cases h⟩ g5 (fun _ h=>h.elim),fun j v hj=>⟨?_,g7 v (Hb hj)⟩,k3⟩
 unfold World.cell?
 rw[g1]
 simp only[Jo,G9,if_false]
 exact g6 j v hj
theorem q0b (m:az P C ω w0 C0 hp w)(he:bn C env a.tmps){t:TypeId}{x x' n ag b bJ q sz xs v}(ho:o.op=.load t x)(hg:yo P t=I ag)(hn:jp P t=I n)(h1:qt x=I x')(e1:qi env x'=I (.dH b bJ q))
  (gI:hp[b]?=I (.vec sz bJ xs)) (hl:q+n≤(xs.flatMap AVal.flat).length) (hv:(ag=Gc∧v=.agg (((xs.flatMap AVal.flat).drop q).take n))∨(ag=Ga∧((xs.flatMap AVal.flat).drop q).take n=[v])):Val P C a o w v:=by
 obtain⟨r0,r,cap,hb,hT,hq⟩:=q8k (qv he h1 e1)
 obtain⟨vs,k1,k2,_⟩:=jl5 m hb hT gI
 have k3:aS C (((xs.flatMap AVal.flat).drop q).take n) ((vs.drop q).take n):=(k1.drop q).take n
 have k4:∀j u,((vs.drop q).take n)[j]?=I u→w.cell? ⟨r,q+j,E3⟩=I u:=by
  intro j u hj
  rw[Sb]at hj
  split at hj
  ·rw[Ny]at hj;exact(k2 _ _ hj).1
  ·cases hj
 have k5:((vs.drop q).take n).length=n:=by rw[k3.length,Si,List.length_drop];omega
 rcases hv with⟨rfl,rfl⟩|⟨rfl,hv⟩
 ·exact⟨.agg ⟨(vs.drop q).take n⟩,by simp[execOp,ho,Instr.loadAt,hq,Instr.sureAddr,FD hg hn k5 k4],.agg _ _ k3⟩
 ·rw[hv]at k3
  generalize hgen:(vs.drop q).take n=us at k3 k4 k5
  cases k3 with
  |cons _ _ u us hu kH=>
   cases kH
   refine⟨u,?_,hu⟩
   have:=FE (P:=P) hg (by simpa using k4 0 u rfl)
   simp[execOp,ho,Instr.loadAt,hq,Instr.sureAddr,this]
def aI.tok (C:aI)(x:Nat×Nat×Nat×Nat):aI:={ C with T:=fun q=>C.T q∨q=x }
theorem aI.gJ {x}:C.le (C.tok x):=⟨fun _ _ _ h=>h,fun _ _ h=>h,rfl,fun _ h=>h,fun _ h=>.inl h⟩
theorem aJ.tok {x B ℓ y v}(h:aJ C ω w B ℓ y v):aJ (C.tok x) ω w B ℓ y v:=by
 unfold aJ at *
 exact h
theorem aq.tok {x B}(e:aq C ω w B env tmps):aq (C.tok x) ω w B env tmps:=
 fun s y hy=>let ⟨v,h1,h2,h3⟩:=e s y hy; ⟨v,h1,aB.mono aI.gJ h2,fun h=>(h3 h).tok⟩
theorem az.qX (m:az P C ω w0 C0 hp w){b r sz bJ q cap xs}(hβ:C.β b=I r)(hT:∀x,C.T x→x.1=r→x.2.1<bJ)(hv:en C.K w q sz xs cap)(ho:q=r∨xT C ω w w0.heap.size b q xs.length cap)(hr:∃cs t,w.heap[r]?=I (.cells cs t (0,0))):
  az P (C.tok (r,bJ,q,cap)) ω w0 C0 (hp.set b (.vec sz bJ xs)) w:=by
 have bw:=m.lt b r hβ
 refine { m with lt:=fun k p hk=>by rw[Lf];exact m.lt k p hk,grown:=aI.le_trans m.grown aI.gJ,box:=?_,iA:=?_ }
 ·intro k y p hy hk
  by_cases kJ:k=b
  ·subst kJ
   rw[G7 bw.2]at hy
   cases hy
   obtain rfl:r=p:=by have:C.β k=I p:=hk;rw[hβ]at this;exact I.inj this
   refine⟨q,cap,.inr rfl,fun x hx hxr=>?_,hv,ho.imp id fun h=>h.tok,hr⟩
   rcases hx with hx|rfl
   ·have:=hT x hx hxr
    exact⟨by omega,fun h=>by omega⟩
   ·exact⟨Gm _,fun _=>rfl⟩
  ·rw[Ih (N7 kJ)]at hy
   have qQ:p≠r:=fun h=>kJ (m.inj k b p hk (h▸hβ))
   refine(m.box k y p hy hk).mono aI.gJ (fun j z u h=>h.tok) (fun x hx hxp=>?_)
   rcases hx with hx|rfl
   ·exact hx
   ·exact absurd hxp.symm qQ
 ·intro x hx
  rcases hx with hx|rfl
  ·exact m.iA x hx
  ·exact bw.1
theorem az.qY (m:az P C ω w0 C0 hp w){b r}(hβ:C.β b=I r)(hr:∃cs t,w.heap[r]?=I (.cells cs t (0,0))):az P C ω w0 C0 (hp.set b .dead) w:=
 m.dO (ω':=ω) (w':=w) (r:=r) (b:=b) ⟨rfl,fun _ _=>rfl,fun c t fr h=>by obtain⟨cs,t',h'⟩:=hr;rw[h']at h;cases h;rfl,rfl,rfl⟩ hβ .dead (fun _ _ _ _ _ h=>h) hr
theorem az.AF (m:az P C ω w0 C0 hp w){b q n cap cs}(hd:hp[b]?=I .dead)(ho:xT C ω w w0.heap.size b q n cap)(hu:gF w w' q cs):az P C ω w0 C0 hp w':=by
 obtain⟨h1,h2,h3,_,_,⟨cells,elem,h5,_⟩,h7⟩:=ho
 simp only at h1 h2 h3 h5 h7
 have hK:∀o,C.K q o=E3:=fun o=>h7 o (by simp)
 refine { base:=m.base,know:=?_,de:=m.de,apart:=m.apart,inj:=m.inj,lt:=?_,size:=?_,frame:=?_,fo:=?_,os:=hu.os.trans m.os,output:=hu.output.trans m.output,fresh:=m.fresh,grown:=m.grown,old:=m.old,box:=?_,iA:=fun x hx=>by rw[hu.size];exact m.iA x hx }
 ·intro k p v hk
  have bG:k≠q:=fun h=>by rw[h,hK p]at hk;cases hk
  have hc:=m.know _ _ _ hk
  simp only[World.cell?]at hc ⊢
  rw[hu.other k bG];exact hc
 ·intro k p hk;rw[hu.size];exact m.lt k p hk
 ·rw[hu.size];exact m.size
 ·intro k hk hn hw
  have bG:k≠q:=fun h=>by
   subst h
   rcases h2 with h|h
   ·omega
   ·rw[m.grown.w]at h;exact hw h
  rw[hu.other k bG];exact m.frame k hk hn hw
 ·intro k hk
  have bG:k≠q:=fun h=>by
   subst h
   have:=m.fo k hk
   rw[h5]at this;cases this
  rw[hu.other k bG];exact m.fo k hk
 ·intro k x p hx hk
  have bG:p≠q:=fun h=>h3 k (h▸hk)
  by_cases kJ:k=b
  ·subst kJ
   rw[hd]at hx
   cases hx
   obtain⟨ez,t',hg⟩:=m.box k .dead p hd hk
   exact⟨ez,t',by rw[hu.other p bG];exact hg⟩
  ·exact(m.box k x p hx hk).iH hu bG (fun j=>by rw[h1];intro h;injection h with h;injection h with h _;exact kJ h.symm)
theorem qqi {sz}:∀ {xs:List AVal} (n:Nat),(∀x∈xs,x.flat.length=sz)→(xs.take n).flatMap AVal.flat=(xs.flatMap AVal.flat).take (n*sz)
 | [],n,_=>by simp
 |x::xs,0,_=>by simp
 |x::xs,n+1,h=>by
  have hx:=h x (Sc ..)
  have h1:x.flat.take ((n+1)*sz)=x.flat:=List.take_of_length_le (by rw[hx,Sd];omega)
  have h2:(n+1)*sz-sz=n*sz:=by rw[Sd];omega
  rw[List.take_succ_cons,Js,Js,qqi n (fun y hy=>h y (R7 _ hy)),List.take_append,hx,h1,h2]
theorem en.grown {K q q' sz len cap kL xs ys news eC dI}{t':TypeId}(h:en K w q sz xs cap)(hl:len≤xs.length)(cV:aS (.bV K) (ys.flatMap AVal.flat) news)(fM:∀y∈ys,y.flat.length=sz)(cW:∀v∈news,v.oneCell'=Gc)
  (hold:∀vs:List Value,aS (.bV K) (xs.flatMap AVal.flat) vs→(∀(j:Nat) v,vs[j]?=I v→w.cell? ⟨q,j,E3⟩=I v)→eC=vs.take (len*sz)) (hcap:len+ys.length≤kL) (cA:kL*sz≤dI.size)
  (hg:w'.heap[q']?=I (.cells dI t' (0,0))) (hc:∀(j:Nat) v,(eC++news)[j]?=I v→dI[j]?=I v):en K w' q' sz (xs.take len++ys) kL:=by
 obtain⟨cells,t,vs,g1,g2,g3,g4,g5,g6,g7⟩:=h
 have ho:eC=vs.take (len*sz):=hold vs g5 (fun j v hj=>by
  unfold World.cell?
  rw[g1]
  simp only[Jo,G9,if_false]
  exact g6 j v hj)
 refine⟨dI,t',eC++news,hg,by rw[Li,Si];omega,cA,?_,?_,hc,?_⟩
 ·intro x hx
  rcases Jp.1 hx with hx|hx
  ·exact g4 x (Lu hx)
  ·exact fM x hx
 ·rw[R9,qqi len g4,ho]
  exact(g5.take _).append cV
 ·intro v hv
  rcases Jp.1 hv with hv|hv
  ·rw[ho]at hv;exact g7 v (Lu hv)
  ·exact cW v hv
theorem aS.pure {xs vs}(h:aS C xs vs)(hb:qw 0 xs=Gc):aS (.bV C.K) xs vs:=
 aB.shift (C:=C) (C':=.bV C.K) 0 (fun _ _ _ h=>h) (fun b r bw=>by omega) h hb
theorem Ri {n}:∀ {xs:List AVal},qw n xs=Gc→qw n (xs.flatMap AVal.flat)=Gc
 | [],_=>rfl
 |x::xs,h=>by
  simp only[qw,Gw]at h
  have key:∀(ys zs:List AVal),qw n ys=Gc→qw n zs=Gc→qw n (ys++zs)=Gc:=by
   intro ys zs
   induction ys with
   |nil=>intro _ h;exact h
   |cons y ys ih=>intro h1 h2;simp only[qw,Gw,List.cons_append]at h1 ⊢;exact⟨h1.1,ih h1.2 h2⟩
  rw[Js]
  exact key _ _ (by rw[KS];exact h.1) (Ri h.2)
theorem aS.fun {xs}:∀ {vs ws:List Value},aS C xs vs→aS C xs ws→vs.length=ws.length:=fun h k=>by rw[h.length,k.length]
theorem jl7 (m:az P C ω w0 C0 hp w)(e:aq C ω w w0.heap.size env a.tmps){c}{t u el:TypeId}{ut:TypeDesc}{x y x' y' sz b bx bJ len xs ys vy h'}
  (ho:o.op=.call c) (dU:c.callee=.builtin .append) (eg:c.args.toList=[x,y]) (eI:c.argTypes.toList=[t,u]) (ht:P.underlying t=I (.slice el)) (hu:P.underlying u=I ut) (jI:Ag ut=Gc)
  (hn:jp P el=I sz) (hb:n6 P el=I b) (h1:qt x=I x') (h2:qt y=I y') (e1:qi env x'=I (.ay bx bJ len)) (e2:qi env y'=I vy) (cN:zy sz vy=I ys)
  (gI:hp[bx]?=I (.vec sz bJ xs)) (hle:len≤xs.length) (hlen:len+ys.length≤1073741824) (jH:b≤4096) (Rj:qw 0 ys=Gc) (hzero:∃z,yr P el=I z∧z.length=sz)
  (bD:jo hp bx (.vec sz (bJ+1) (xs.take len++ys))=I h'):
  ∃v w',(execOp a.eval o).run P w=.ok (.value v) w'∧zo P C0 w0 C a.tmps d env ⟨.ay bx (bJ+1) (len+ys.length),Ga,E3,h'⟩ v w':=by
 have gd:h'=hp.set bx (.vec sz (bJ+1) (xs.take len++ys)):=by
  unfold jo at bD
  cases wC:Tt bx hp.length with
  |false=>simp[wC]at bD
  |true=>simpa[wC]using bD.symm
 subst gd
 have ha:c.args=#[x,y]:=by apply G6;simpa using eg
 have lI:c.argTypes=#[t,u]:=by apply G6;simpa using eI
 obtain⟨i,hi,qR⟩:∃i,P.info? el=I i∧i.bytes=b:=by
  unfold n6 at hb
  cases hi:P.info? el with
  |none=>simp[hi]at hb
  |some i=>exact⟨i,rfl,by simpa[hi]using hb⟩
 have kI:i.size=sz:=by
  unfold jp at hn;rw[hi]at hn;simpa using hn
 obtain⟨z,hz,AA⟩:=hzero
 obtain⟨zv,nq⟩:∃zv,i.zero=I zv:=by
  unfold yr at hz;rw[hi]at hz
  cases hq:i.zero with
  |none=>simp[hq]at hz
  |some v=>exact⟨v,rfl⟩
 have ry:=qv e.cm h2 e2
 obtain⟨news,hs,cV,fM,cW⟩:=K5 m hu jI cN ry
 have qZ:aS (.bV C.K) (ys.flatMap AVal.flat) news:=cV.pure (Ri Rj)
 have eT:∀ {z:Value} {w':World},(Builtin.append_ #[t,u] o.type #[a.eval x,a.eval y]).run P w=.ok z w'→(execOp a.eval o).run P w=.ok (.value z) w':=by
  intro z w' h
  simp[execOp,ho,resolve,dU,ha,lI,invoke,builtin,h]
 have nu:news.length=ys.length*sz:=by rw[cV.length,ym ys fM]
 obtain⟨r0,q,cap,hβ,hT,hlc,hx⟩:=K9 (qv e.cm h1 e1)
 obtain⟨q',kL,k1,k2,k3,k4,k5⟩:=m.box bx _ r0 gI hβ
 have heq:=(k2 _ hT rfl).2 rfl
 simp only[Prod.mk.injEq]at heq
 obtain⟨rfl,rfl⟩:=heq
 have rh:∀x,C.T x→x.1=r0→x.2.1<bJ+1:=fun x hx hr=>by have:=(k2 x hx hr).1;omega
 have wC:=(m.lt bx r0 hβ).2
 -- the old cells
 obtain⟨cells,te,vs,g1,g2,g3,g4,g5,g6,g7⟩:=id k3
 have wz:vs.length=xs.length*sz:=by rw[g5.length,ym xs g4]
 have hvle:xs.length*sz≤cap*sz:=Gv _ g2
 have hlle:len*sz≤xs.length*sz:=Gv _ hle
 have hold:∀ri:List Value,aS (.bV C.K) (xs.flatMap AVal.flat) ri→(∀(j:Nat) v,ri[j]?=I v→w.cell? ⟨q,j,E3⟩=I v)→vs.take (len*sz)=ri.take (len*sz):=by
  intro ri h3 h4
  have hl':ri.length=vs.length:=by rw[h3.length,g5.length]
  have:ri=vs:=by
   apply Nz
   intro j
   by_cases hj:j<vs.length
   ·have h5:=h4 j _ (Gq (by omega))
    have h6:=g6 j _ (Gq hj)
    unfold World.cell? at h5
    rw[g1]at h5
    simp only[Jo,G9,if_false]at h5
    rw[Gq hj,Gq (by omega),←h5,h6]
   ·rw[Jr (by omega),Jr (by omega)]
  rw[this]
 by_cases ep:len+ys.length≤cap
 ·-- there is room
  have gG:(len+ys.length)*sz≤cap*sz:=Gv _ ep
  rw[Jt]at gG
  have bF:=Q0 (P:=P) (w:=w) (ty:=o.type) ht hi q 0 len cap (a.eval y) ys.length news (kI▸hs) ep g1 (by rw[kI,nu];omega)
  rw[←hx,kI]at bF
  have oi:=Fv g1 (cells.toList.take (0+len*sz)++news++cells.toList.drop (0+len*sz+news.length)).toArray
  have lN:=setRow_heap w q cells (cells.toList.take (0+len*sz)++news++cells.toList.drop (0+len*sz+news.length)).toArray te (0,0) g1
  generalize QZ:w.setRow q (cells.toList.take (0+len*sz)++news++cells.toList.drop (0+len*sz+news.length)).toArray=w' at bF oi lN
  have AG:en C.K w' q sz (xs.take len++ys) cap:=by
   refine en.grown (eC:=vs.take (len*sz)) k3 hle qZ fM cW hold ep (by simp;omega) lN ?_
   intro j v hj
   rw[Gr]
   have eI:(cells.toList.take (0+len*sz)).length=len*sz:=by simp;omega
   have lO:(vs.take (len*sz)).length=len*sz:=by simp;omega
   by_cases DF:j<len*sz
   ·rw[If,Gh (by rw[eI];exact DF)]
    rw[Gh (by rw[lO];exact DF),Ha DF]at hj
    rw[Ha (by omega),Gp]
    exact g6 j v hj
   ·rw[Gl (by rw[lO];omega),lO]at hj
    have hjn:j-len*sz<news.length:=(Gi.1 hj).1
    rw[If,Gl (by rw[eI];omega),eI,Gh hjn]
    exact hj
  have fin:∀(m1:az P C ω w0 C0 (hp.set bx .dead) w') (e1:aq C ω w' w0.heap.size env a.tmps) (FC:q=r0∨xT C ω w' w0.heap.size bx q (xs.take len++ys).length cap) (wD:∃cs t,w'.heap[r0]?=I (.cells cs t (0,0))),
    zo P C0 w0 C a.tmps d env ⟨.ay bx (bJ+1) (len+ys.length),Ga,E3,hp.set bx (.vec sz (bJ+1) (xs.take len++ys))⟩ (.slice (I ⟨q,0,E3⟩) (len+ys.length) cap) w':=by
   intro m1 e1 FC wD
   have m2:=m1.qX (b:=bx) (sz:=sz) (bJ:=bJ+1) (q:=q) (cap:=cap) (xs:=xs.take len++ys) hβ rh AG FC wD
   rw[Sf]at m2
   exact⟨_,ω,aI.gJ,m2,e1.tok,.ay _ _ _ r0 q cap hβ (.inr rfl) ep,by simp⟩
  refine⟨_,_,eT bF,?_⟩
  rcases k4 with rfl|k4
  ·refine fin ?_ (e.dC oi.iH hβ) (.inl rfl) ⟨_,_,lN⟩
   exact m.dO oi.iH hβ .dead (fun _ _ _ _ _ h=>h) ⟨_,_,lN⟩
  ·have hqr:q≠r0:=fun h=>k4.2.2.1 bx (by rw[hβ];exact congrArg I h.symm)
   have md:=m.qY hβ k5
   have m1:=md.AF (by rw[G7 wC]) k4 oi
   obtain⟨Rk,t5,k5⟩:=k5
   refine fin m1 ?_ (.inr ?_) ⟨Rk,t5,by rw[oi.other _ (N7 hqr)];exact k5⟩
   ·exact fun s y hy=>let ⟨v,j1,j2,j3⟩:=e s y hy; ⟨v,j1,j2,fun h=>(j3 h).iH oi (by rw[k4.1];simp)⟩
   ·obtain⟨j1,j2,j3,j4,j5,_,j7⟩:=k4
    exact⟨j1,j2,j3,j4,j5,⟨_,te,lN,by simp,fun _ _ _ h=>by simp at h⟩,fun o ho=>j7 o (by simp)⟩
 ·-- there is none
  have cA:Builtin.nextslicecap (len+ys.length) cap*i.bytes≤281474976710656:=growslice_fits (by omega) (by
   rw[qR]
   exact Hd (J9 hlen jH) (by decide))
  have FL:(vs.take (len*sz)).length=len*i.size:=by rw[kI];simp;omega
  have bF:=run_append_grow_src w t u o.type el i zv ht hi nq (I ⟨q,0,E3⟩) len cap (vs.take (len*sz)) (run_firstCells_some _ _ _ _ _ _ _ FL (fun j v hj=>by
   rw[Sb]at hj
   split at hj
   ·have h3:=g6 j v hj
    have h4:w.cell? ⟨q,j,E3⟩=I v:=by
     unfold World.cell?
     rw[g1]
     simp only[Jo,G9,if_false]
     exact h3
    rw[add_lit,Sg]
    exact h4
   ·cases hj)) (a.eval y) ys.length news (kI▸hs) (by omega) (by omega) cA
  rw[←hx]at bF
  have vj:=grownCap_ge w (len+ys.length) cap el
  have ig:zv.cells.size=sz:=by
   obtain⟨_,zv',lJ,FA,_⟩:=vh (C:=C) hz
   have:=lJ w
   simp[zeroValue,typeInfo,hi,nq]at this
   subst this
   have:=FA.length
   simp at this
   omega
  generalize eE:((vs.take (len*sz)++news).toArray++Builtin.zeroCells zv.cells (grownCap w (len+ys.length) cap el-(len+ys.length)))=dI at bF
  generalize Rl:grownCap w (len+ys.length) cap el=gc at bF vj eE
  have iJ:Ext w w.drew:=Ext.drew w
  have Rm:Ext w.drew (w.drew.alloc (.cells dI el)):=Ext.alloc _ _ (fun c t fr h=>by cases h;rfl)
  have FM:(w.drew.alloc (.cells dI el)).heap[w.drew.heap.size]?=I (.cells dI el (0,0)):=by rw[wx,if_pos rfl]
  have AG:en C.K (w.drew.alloc (.cells dI el)) w.drew.heap.size sz (xs.take len++ys) gc:=by
   refine en.grown (eC:=vs.take (len*sz)) k3 hle qZ fM cW hold vj ?_ FM ?_
   ·rw[←eE]
    have lO:(vs.take (len*sz)).length=len*sz:=by simp;omega
    simp only[N8,Lr,Li,lO,nu]
    have:(Builtin.zeroCells zv.cells (gc-(len+ys.length))).size=(gc-(len+ys.length))*sz:=by simp[Builtin.zeroCells,ig]
    rw[this,←Jt,←Jt]
    exact Gv _ (by omega)
   ·intro j v hj
    rw[←eE,Hc (by simpa using(Gi.1 hj).1)]
    simpa using hj
  have md:=((m.qY hβ k5).ext iJ).kG w.drew.heap.size (.cell bx 0) (Gm _)
  have m1:=md.ext Rm
  obtain⟨Rk,t5,k5⟩:=k5
  have m2:=m1.qX (b:=bx) (sz:=sz) (bJ:=bJ+1) (q:=w.drew.heap.size) (cap:=gc) (xs:=xs.take len++ys) hβ rh AG (.inr ⟨by simp[cI],.inl (Hd m.size iJ.size),fun k hk=>by have:=(m.lt k _ hk).1;simp at this,rfl,rfl,⟨dI,el,FM,by simp,fun _ _ _ h=>by simp at h⟩,fun o _=>m.jR _ iJ.size o⟩) ⟨Rk,t5,(iJ.trans Rm).get k5⟩
  rw[Sf]at m2
  refine⟨_,_,eT bF,_,_,aI.gJ,m2,(((e.ext iJ).fresh (Gm _)).ext Rm).tok,.ay _ _ _ r0 _ gc hβ (.inr rfl) (by omega),by simp⟩
theorem jf6 (m:az P C ω w0 C0 hp w)(e:aq C ω w w0.heap.size env tmps){bx sz cap xs cells}{te:TypeId}{vs}(hh:hp[bx]?=I .hole)(La:aS C (xs.flatMap AVal.flat) vs)(AH:qw 0 xs=Gc)(cS:∀x∈xs,x.flat.length=sz)
  (cW:∀v∈vs,v.oneCell'=Gc) (hc:∀(j:Nat) v,vs[j]?=I v→cells[j]?=I v) (hcap:xs.length≤cap) (cA:cap*sz≤cells.size):
  zo P C0 w0 C tmps d env ⟨.ay bx 0 xs.length,Ga,E3,hp.set bx (.vec sz 0 xs)⟩ (.slice (I ⟨w.heap.size,0,E3⟩) xs.length cap) (w.alloc (.cells cells te)):=by
 obtain⟨m1,e1,AJ⟩:=m.aK e hh (.cells cells te) (fun c t fr h=>by cases h;rfl) .dead (fun C' ω' w' _ hg=>⟨cells,te,hg⟩)
 have FM:(w.alloc (.cells cells te)).heap[w.heap.size]?=I (.cells cells te (0,0)):=by rw[wx,if_pos rfl]
 have hβ:(C.box bx w.heap.size).β bx=I w.heap.size:=by simp[aI.box]
 have m2:=m1.qX (b:=bx) (r:=w.heap.size) (sz:=sz) (bJ:=0) (q:=w.heap.size) (cap:=cap) (xs:=xs) hβ (fun x hx hr=>by have:=m.iA x hx;omega) ⟨cells,te,vs,FM,hcap,cA,cS,La.pure (Ri AH),hc,cW⟩ (.inl rfl) ⟨cells,te,FM⟩
 rw[Sf]at m2
 exact⟨_,ω,aI.le_trans AJ aI.gJ,m2,e1.tok,.ay _ _ _ w.heap.size w.heap.size cap hβ (.inr rfl) hcap,by simp⟩
theorem jlv (m:az P C ω w0 C0 hp w)(e:aq C ω w w0.heap.size env a.tmps){c}{t u el:TypeId}{ut:TypeDesc}{x y x' y' sz Rn b h0 rk ys vy h'}
  (ho:o.op=.call c) (dU:c.callee=.builtin .append) (eg:c.args.toList=[x,y]) (eI:c.argTypes.toList=[t,u]) (ht:P.underlying t=I (.slice el)) (hu:P.underlying u=I ut) (jI:Ag ut=Gc)
  (hn:jp P el=I sz) (hb:n6 P el=I b) (h1:qt x=I x') (h2:qt y=I y') (e1:qi env x'=I (.list Gc Rn [])) (e2:qi env y'=I vy) (cN:zy sz vy=I ys)
  (hlen:ys.length≤1073741824) (bG:ys≠[]) (jH:b≤4096) (Rj:qw 0 ys=Gc) (hzero:∃z,yr P el=I z∧z.length=sz) (df:aK h0 hp rk (.vec sz 0 ys)=I h'):
  ∃v w',(execOp a.eval o).run P w=.ok (.value v) w'∧zo P C0 w0 C a.tmps d env ⟨.ay (h0+rk) 0 ys.length,Ga,E3,h'⟩ v w':=by
 obtain⟨hh,rfl⟩:=yz df
 have ha:c.args=#[x,y]:=by apply G6;simpa using eg
 have lI:c.argTypes=#[t,u]:=by apply G6;simpa using eI
 obtain⟨i,hi,qR⟩:∃i,P.info? el=I i∧i.bytes=b:=by
  unfold n6 at hb
  cases hi:P.info? el with
  |none=>simp[hi]at hb
  |some i=>exact⟨i,rfl,by simpa[hi]using hb⟩
 have kI:i.size=sz:=by
  unfold jp at hn;rw[hi]at hn;simpa using hn
 obtain⟨z,hz,AA⟩:=hzero
 obtain⟨zv,nq⟩:∃zv,i.zero=I zv:=by
  unfold yr at hz;rw[hi]at hz
  cases hq:i.zero with
  |none=>simp[hq]at hz
  |some v=>exact⟨v,rfl⟩
 have ry:=qv e.cm h2 e2
 obtain⟨news,hs,cV,fM,cW⟩:=K5 m hu jI cN ry
 have eT:∀ {z:Value} {w':World},(Builtin.append_ #[t,u] o.type #[a.eval x,a.eval y]).run P w=.ok z w'→(execOp a.eval o).run P w=.ok (.value z) w':=by
  intro z w' h
  simp[execOp,ho,resolve,dU,ha,lI,invoke,builtin,h]
 have nu:news.length=ys.length*sz:=by rw[cV.length,ym ys fM]
 have hx:a.eval x=.slice E3 0 0:=by
  rcases(qv e.cm h1 e1).cU with⟨_,_,hx⟩|⟨hf,_⟩|⟨hf,_⟩
  ·exact hx
  ·cases hf
  ·cases hf
 have gK:0<ys.length:=List.length_pos_iff.2 bG
 have cA:Builtin.nextslicecap (0+ys.length) 0*i.bytes≤281474976710656:=growslice_fits (by omega) (by
  rw[qR]
  exact Hd (J9 (by omega) jH) (by decide:2^30*4096≤_))
 have bF:=run_append_grow_src w t u o.type el i zv ht hi nq E3 0 0 [] (run_firstCells_none _ _ _ _ _) (a.eval y) ys.length news (kI▸hs) (by omega) (by omega) cA
 rw[←hx]at bF
 have vj:=grownCap_ge w (0+ys.length) 0 el
 have ig:zv.cells.size=sz:=by
  obtain⟨_,zv',lJ,FA,_⟩:=vh (C:=C) hz
  have:=lJ w
  simp[zeroValue,typeInfo,hi,nq]at this
  subst this
  have:=FA.length
  simp at this
  omega
 generalize eE:(([]++news).toArray++Builtin.zeroCells zv.cells (grownCap w (0+ys.length) 0 el-(0+ys.length)))=dI at bF
 generalize Rl:grownCap w (0+ys.length) 0 el=gc at bF vj eE
 have iJ:Ext w w.drew:=Ext.drew w
 have:=jf6 (d:=d) (tmps:=a.tmps) (m.ext iJ) (e.ext iJ) (te:=el) (cap:=gc) (sz:=sz) (cells:=dI) hh cV Rj fM cW (fun j v hj=>by
  rw[←eE,Nx,Hc (by simpa using(Gi.1 hj).1)]
  simpa using hj) (by omega) (by
   rw[←eE]
   have h5:(Builtin.zeroCells zv.cells (gc-(0+ys.length))).size=(gc-(0+ys.length))*sz:=by simp[Builtin.zeroCells,ig]
   simp only[N8,Lr,Nx,nu,h5]
   rw[←Jt]
   exact Gv _ (by omega))
 rw[Sg]at bF
 exact⟨_,_,eT bF,this⟩
theorem jj6 (m:az P C ω w0 C0 hp w)(e:aq C ω w w0.heap.size env a.tmps){t el:TypeId}{ps len sz h0 rk z fS qs xs h'}
  (ho:o.op=.buildSlice t len ps) (ht:P.underlying t=I (.slice el)) (hn:jp P el=I sz) (hz:yr P el=I z) (hlen:sz*len≤65536) (Rc:0<sz) (ig:z.length=sz)
  (mE:xQ ps.toList=I fS) (hq:ye env sz fS=I qs) (hx:lE (Gg len (vg sz z)) qs=I xs) (AH:qw 0 xs=Gc) (df:aK h0 hp rk (.vec sz 0 xs)=I h'):
  ∃v w',(execOp a.eval o).run P w=.ok (.value v) w'∧zo P C0 w0 C a.tmps d env ⟨.ay (h0+rk) 0 xs.length,Ga,E3,h'⟩ v w':=by
 obtain⟨hh,rfl⟩:=yz df
 obtain⟨ds,bF,hdr,h1,nj,jU,cA⟩:=qmj (C:=C) (ω:=ω) (w:=w) (w0:=w0) e ho ht hn hz hlen Rc ig mE hq hx
 refine⟨_,_,bF,?_⟩
 have eS:=jf6 (d:=d) (tmps:=a.tmps) m e (te:=el) (cap:=len) (sz:=sz) (cells:=ds) hh hdr AH nj h1 (by intro j v h;simpa using h) (by omega) cA
 rw[jU]at eS ⊢
 exact eS
theorem jcs (m:az P C ω w0 C0 hp w)(e:aq C ω w w0.heap.size env a.tmps){t:TypeId}{z}(ho:o.op=.alloc t)(hz:yr P t=I z):
  ∃v w',(execOp a.eval o).run P w=.ok (.value v) w'∧zo P C0 w0 C a.tmps d env ⟨.cT z.length,Gc,E3,hp⟩ v w':=by
 obtain⟨_,zv,lq,cK,lJ⟩:=vh (C:=C) hz
 have hx:Ext w (w.alloc (.cells zv.cells t)):=Ext.alloc w _ (fun c t fr h=>by cases h;rfl)
 have ig:zv.cells.size=z.length:=by have:=cK.length;simpa using this
 refine⟨.pointer (I ⟨w.heap.size,0,E3⟩),_,by simp[execOp,ho,Instr.alloc,lq,newVar,newRow],C,Abs.cI ω w.heap.size d,aI.le_refl C,(m.kG _ d (Gm _)).ext hx,(e.fresh (Gm _)).ext hx,.cT _ _,fun _=>?_⟩
 refine⟨by simp[Abs.cI],.inl m.size,fun b hb=>by have:=(m.lt b _ hb).1;simp at this,rfl,rfl,⟨zv.cells,t,by rw[wx,if_pos rfl],by simp;omega,fun _ _ _ h=>by simp at h⟩,fun o _=>m.jR _ (Gm _) o⟩
theorem jbz (m:az P C ω w0 C0 hp w)(e:aq C ω w w0.heap.size env a.tmps){t:TypeId}{x y y' n s v}(ho:o.op=.store t x y)(hn:jp P t=I n)
  (h1:qt x=I (.tmp s)) (h2:qt y=I y') (hl:jj s env=I (.cT n,Gc)) (e2:qi env y'=I v) (wz:v.flat.length=n) (hs:v.flat.all qk=Gc):
  ∃w' C' ω',(execOp a.eval o).run P w=.ok .skip w'∧C.le C'∧az P C' ω' w0 C0 hp w'∧aq C' ω' w' w0.heap.size ((s,.ah v,Ga)::env) a.tmps:=by
 obtain⟨cv,c1,c2,c3⟩:=e s _ hl
 have gW:a.eval x=cv:=by
  cases x with
  |tmp t'=>
   simp only[qt]at h1
   cases h1
   simp[Act.eval,Gs,c1]
  |const u=>simp only[qt]at h1;split at h1<;>cases h1
  |func f=>simp[qt]at h1
  |global g=>simp[qt]at h1
 cases c2 with
 |cT _ ad=>
  obtain⟨hω,hB,hβ,mC,wy,⟨cells,te,hg,cA,_⟩,hK⟩:=c3 rfl
  obtain⟨r,q,sp⟩:=ad
  simp only at hω hB hβ mC wy hg cA hK
  subst mC
  subst wy
  have ry:=qv e.cm h2 e2
  have hc:=As ry hs
  have cW:=Av hc (fun y hy=>N9.1 hs y hy)
  have dK:(a.eval y).cells.toList.length=n:=by rw[hc.length,wz]
  have bF:=Ra (P:=P) (t:=t) (off:=0) hn dK hg (by omega) cW
  obtain⟨m',e',hle⟩:=qvf (d:=.slot s) m e (r:=r) (q:=0) (news:=(a.eval y).cells.toList) hω hB hβ hg (by omega) (fun o _=>hK o (by simp)) cW
  refine⟨_,_,_,?_,hle,m',?_⟩
  ·simp only[execOp,ho,Instr.storeAt,Sem.run_bind,gW,Instr.sureAddr,Sem.run_pure,Result.andThen_ok,bF]
  ·intro t' z hz
   by_cases lM:t'=s
   ·subst lM
    simp only[jj,R0,cond_true,I.injEq]at hz
    subst hz
    exact⟨_,c1,.ah _ _ _ (aI.fg (fun o _=>hK o (by simp)) hc),by simp⟩
   ·have hb:Gz s t'=Ga:=by
     cases hb:Gz s t' with
     |false=>rfl
     |true=>exact absurd (Gd hb).symm lM
    simp only[jj,hb,cond_false]at hz
    refine e' t' z ?_
    simp only[yc,hl,jj,hb,cond_false]
    exact hz
end
section
variable {P:Program}{C C0:aI}{ω:Nat→Option Loc}{w w' w0:World}{hp:qh}{env:Env}{a:Act}{o:Oper}{tmps:Array Value}{d:Loc}
def kg (w:World)(r:Nat)(x:Obj):World:={ w with heap:=w.heap.setIfInBounds r x }
theorem FN {r x}(h:r<w.heap.size):(kg w r x).heap[r]?=I x:=by
 show(w.heap.setIfInBounds r x)[r]?=_
 rw[Array.getElem?_setIfInBounds_self_of_lt h]
theorem DG {r x}(h:r<w.heap.size)(hx:∀c t fr,x=.cells c t fr→fr=(0,0)):nv w (kg w r x) r where
 size:=by simp[kg]
 other k hk:=by
  show(w.heap.setIfInBounds r x)[k]?=_
  rw[Array.getElem?_setIfInBounds_ne (N7 hk)]
 fz c t fr hc:=by
  rw[FN h]at hc
  exact hx c t fr (I.inj hc)
 os:=rfl
 output:=rfl
theorem x6 {r x y}(h:w.heap[r]?=I y)(hy:∀c t f,y≠.cells c t f):(setObj r x).run P w=.ok () (kg w r x):=by
 cases y with
 |cells c t f=>exact absurd rfl (hy c t f)
 |_=>simp[setObj,Sem.run,kg,h]
theorem pA {r y}(h:w.heap[r]?=I y)(hy:∀c t f,y≠.cells c t f):(getObj r).run P w=.ok y w:=by
 cases y with
 |cells c t f=>exact absurd rfl (hy c t f)
 |_=>simp[getObj,Sem.run,h]
theorem jfy (m:az P C ω w0 C0 hp w)(e:aq C ω w w0.heap.size env a.tmps){x x' b pos s}(ho:o.op=.next x Gc)(h1:qt x=I x')(e1:qi env x'=I (.ptr b 0))(gI:hp[b]?=I (.iter s pos)):
  (pos<s.length→∀h',jo hp b (.iter s (pos+(qn s pos).2))=I h'→∃v w',(execOp a.eval o).run P w=.ok (.value v) w'∧zo P C0 w0 C a.tmps d env ⟨.aC [.bool Gc,.int .i64 pos,.int .i32 (qn s pos).1],Ga,E3,h'⟩ v w') ∧
  (¬pos<s.length→∃v w',(execOp a.eval o).run P w=.ok (.value v) w'∧zo P C0 w0 C a.tmps d env ⟨.aC [.bool Ga],Ga,E3,hp⟩ v w'):=by
 obtain⟨r,hr,hq⟩:=(qv e.cm h1 e1).dj
 have gH:w.heap[r]?=I (.stringIter ⟨⟨s⟩⟩ pos):=m.box b _ r gI hr
 have bw:=(m.lt b r hr).1
 have cS:(⟨⟨s⟩⟩:ByteArray).size=s.length:=rfl
 constructor
 ·intro gK h' bD
  obtain rfl:=AB bD
  have hu:=DG (w:=w) (r:=r) (x:=.stringIter ⟨⟨s⟩⟩ (pos+(qn s pos).2)) bw (by simp)
  refine⟨.tuple #[.bool Gc,goInt pos,.int .i32 (qn s pos).1],kg w r (.stringIter ⟨⟨s⟩⟩ (pos+(qn s pos).2)),?_,C,ω,aI.le_refl C,m.dO hu hr _ (fun _ _ _ _ _ h=>h) (FN bw),e.dC hu hr,?_,by simp⟩
  ·have et:pos<(⟨⟨s⟩⟩:ByteArray).size:=gK
   have bD:=x6 (P:=P) (x:=.stringIter ⟨⟨s⟩⟩ (pos+(qn s pos).2)) gH (by simp)
   simp only[execOp,ho,hq,Instr.next,Sem.run_bind,pA gH (by simp),Result.andThen_ok,et,if_true]
   unfold qn at bD ⊢
   simp only[Sem.run_bind,bD,Result.andThen_ok,Sem.run_pure]
  ·refine .aC _ _ (.cons _ _ _ _ (.bool _) (.cons _ _ _ _ ?_ (.cons _ _ _ _ (.int _ _) .nil)))
   exact .int _ _
 ·intro gK
  have et:¬pos<(⟨⟨s⟩⟩:ByteArray).size:=gK
  refine⟨.tuple #[.bool Ga],w,?_,q1z m e (.aC _ _ (.cons _ _ _ _ (.bool _) .nil))⟩
  simp only[execOp,ho,hq,Instr.next,Sem.run_bind,pA gH (by simp),Result.andThen_ok,et,if_false,Sem.run_pure]
theorem Ro {t:TypeId}{kd}(h:kF P t=I kd):(kd=.int∧∃k,P.underlying t=I (.int k))∨(kd=.str∧P.underlying t=I .string)∨(kd=.bool∧P.underlying t=I .bool):=by
 unfold kF at h
 split at h<;>first|cases h|skip
 ·exact .inl ⟨rfl,_,‹_›⟩
 ·exact .inr (.inl ⟨rfl,‹_›⟩)
 ·exact .inr (.inr ⟨rfl,‹_›⟩)
theorem quz {t:TypeId}{td:TypeDesc}{kd x y u v b}(ht:P.underlying t=I td)(hk:kF P t=I kd)(hx:bP C x u)(hy:bP C y v)(h:mg kd x y=I b):Instr.sameNow td u v=I b∧(b=Gc→x=y∧u=v∧Instr.sameBits 10000 v u=Gc):=by
 rcases Ro hk with⟨rfl,k,hu⟩|⟨rfl,hu⟩|⟨rfl,hu⟩<;>rw[hu]at ht<;>cases ht
 ·cases x<;>cases y<;>simp only[mg]at h<;>first|cases h|skip
  rename_i k1 n1 k2 n2
  have e1:=hx.bQ
  have e2:=hy.bQ
  subst e1;subst e2
  by_cases ik:k1=k2
  ·subst ik
   simp only[decide_true,cond_true,I.injEq]at h
   refine⟨by simp[Instr.sameNow,h],fun hb=>?_⟩
   subst hb
   have:n1=n2:=by simpa using h
   subst this
   exact⟨rfl,rfl,by simp[Instr.sameBits]⟩
  ·simp[ik]at h
 ·cases x<;>cases y<;>simp only[mg]at h<;>first|cases h|skip
  rename_i s1 s2
  have e1:=hx.cq
  have e2:=hy.cq
  subst e1;subst e2
  have FO:((⟨⟨s1⟩⟩:ByteArray) == ⟨⟨s2⟩⟩)=(s1 == s2):=by
   show(Array.mk s1 == Array.mk s2)=_
   simp
  refine⟨by simp only[Instr.sameNow,FO],fun hb=>?_⟩
  have x9:s1=s2:=by simpa using hb
  subst x9
  refine⟨rfl,rfl,?_⟩
  simp only[Instr.sameBits,FO]
  simp
 ·cases x<;>cases y<;>simp only[mg]at h<;>first|cases h|skip
  rename_i b1 b2
  have e1:=hx.di
  have e2:=hy.di
  subst e1;subst e2
  refine⟨by simp[Instr.sameNow],fun hb=>?_⟩
  have x9:b1=b2:=by simpa using hb
  subst x9
  exact⟨rfl,rfl,by simp[Instr.sameBits]⟩
theorem FP {t:TypeId}{td:TypeDesc}{kd k u}(ht:P.underlying t=I td)(hk:kF P t=I kd)(hx:bP C k u):∀ {es:List (AVal×AVal)} {ms:List MapEntry} {i:Nat} {r:Option (Nat×AVal)},cB C es ms→jl kd k es i=I r →
  match r with
  |none=>Instr.findNow td u ms i=I E3
  |some (j,v)=>∃m,i≤j∧es[j-i]?=I (k,v)∧ms[j-i]?=I m∧m.key=u∧bP C v m.val∧Instr.findNow td u ms i=I (I (j,m.val))∧Instr.sameBits 10000 m.key u=Gc
 |_,_,i,r,.nil,h=>by
  simp only[jl,I.injEq]at h
  subst h
  simp[Instr.findNow]
 |_,_,i,r,.cons k' v' es m ms h1 h2 h3,h=>by
  simp only[jl]at h
  split at h
  ·rename_i he
   cases h
   obtain⟨q1,q2⟩:=quz ht hk hx h1 he
   obtain⟨rfl,rfl,q3⟩:=q2 rfl
   exact⟨m,Gm _,by simp,by simp,rfl,h2,by simp[Instr.findNow,q1],q3⟩
  ·rename_i he
   obtain⟨q1,_⟩:=quz ht hk hx h1 he
   have ih:=FP ht hk hx h3 h
   cases r with
   |none=>simp only[Instr.findNow,q1];exact ih
   |some jv=>
    obtain⟨j,v⟩:=jv
    obtain⟨m2,k1,k2,k3,k4,k5,k6,k7⟩:=ih
    refine⟨m2,by omega,?_,?_,k4,k5,by simp only[Instr.findNow,q1];exact k6,k7⟩
    ·rw[show j-i=(j-(i+1))+1 from by omega];simpa using k2
    ·rw[show j-i=(j-(i+1))+1 from by omega];simpa using k3
  ·cases h
theorem DH {t:TypeId}{kd}(hk:kF P t=I kd)(e:Bool)(v:Value):(Instr.checkKey e 10000 t v).run P w=.ok () w:=by
 rcases Ro hk with⟨_,k,hu⟩|⟨_,hu⟩|⟨_,hu⟩<;>(unfold Instr.checkKey;simp[run_underlying hu])
theorem FQ {t:TypeId}{td:TypeDesc}{u ms r}(ht:P.underlying t=I td)(h:Instr.findNow td u ms 0=I r):(Instr.findKey t u ms).run P w=.ok r w:=by
 simp[Instr.findKey,run_underlying ht,h]
theorem Rp {t:TypeId}{kd}(hk:kF P t=I kd):∃td,P.underlying t=I td:=by
 rcases Ro hk with⟨_,k,hu⟩|⟨_,hu⟩|⟨_,hu⟩<;>exact⟨_,hu⟩
theorem Rq (m:az P C ω w0 C0 hp w)(e:aq C ω w w0.heap.size env a.tmps){t kt el:TypeId}{x y ok x' y' kd zv mv kv r}(ho:o.op=.lookup t x y ok)(ht:P.underlying t=I (.map kt el))(iD:kF P kt=I kd)(hz:Qy P el=I zv)
  (h1:qt x=I x') (h2:qt y=I y') (e1:qi env x'=I mv) (e2:qi env y'=I kv)
  (hv:(mv=.bX∧r=E3)∨∃b es,mv=.map b∧hp[b]?=I (.map es)∧jl kd kv es 0=I r):
  Val P C a o w (match r with
   |some (_,v)=>bif ok then .aC [v,.bool Gc]else v
   |none=>bif ok then .aC [zv,.bool Ga]else zv):=by
 have ij:=qv e.cm h2 e2
 have vm:=qv e.cm h1 e1
 obtain⟨td,rj⟩:=Rp iD
 obtain⟨FR,lq,nq⟩:∃v,(∀w,(zeroValue el).run P w=.ok v w)∧bP C zv v:=by
  unfold Qy at hz
  split at hz
  ·rename_i i hi
   split at hz
   ·rename_i v hv
    exact⟨v,fun w=>by simp[zeroValue,typeInfo,hi,hv],qsz C hz⟩
   ·cases hz
  ·cases hz
 have fin:∀ {ms:List MapEntry} {rv:Option (Nat×Value)},(a.eval x=.map E3∧ms=[]∨∃q clock,a.eval x=.map (I q)∧w.heap[q]?=I (.map ⟨ms⟩ clock))→Instr.findNow td (a.eval y) ms 0=I rv →
   (execOp a.eval o).run P w=.ok (.value (if ok then .tuple #[(match rv with|some (_,v)=>v|none=>FR),.bool rv.isSome]else(match rv with|some (_,v)=>v|none=>FR))) w:=by
  intro ms rv hm hf
  have vn:=FQ (w:=w) rj hf
  rcases hm with⟨hm,rfl⟩|⟨q,clock,hm,hq⟩
  ·cases rv<;>simp[execOp,ho,Instr.lookup,run_underlying ht,hm,DH iD,vn,lq]
  ·cases rv<;>simp[execOp,ho,Instr.lookup,run_underlying ht,hm,pA hq (by simp),DH iD,vn,lq]
 rcases hv with⟨rfl,rfl⟩|⟨b,es,rfl,hb,hfe⟩
 ·generalize mF:a.eval x=mx at vm
  cases vm
  refine⟨_,fin (ms:=[]) (rv:=none) (.inl ⟨mF,rfl⟩) (by simp[Instr.findNow]),?_⟩
  cases ok with
  |true=>exact .aC _ _ (.cons _ _ _ _ nq (.cons _ _ _ _ (.bool _) .nil))
  |false=>exact nq
 ·generalize mF:a.eval x=mx at vm
  cases vm with
  |map _ q oO=>
   obtain⟨b9,clock,g1,g2⟩:=m.box b _ q hb oO
   have hf:=FP rj iD ij g2 hfe
   cases r with
   |none=>
    refine⟨_,fin (ms:=b9.toList) (rv:=none) (.inr ⟨q,clock,mF,g1⟩) hf,?_⟩
    cases ok with
    |true=>exact .aC _ _ (.cons _ _ _ _ nq (.cons _ _ _ _ (.bool _) .nil))
    |false=>exact nq
   |some jv=>
    obtain⟨j,v⟩:=jv
    obtain⟨me,_,_,_,_,hrv,hfn,_⟩:=hf
    refine⟨_,fin (ms:=b9.toList) (rv:=I (j,me.val)) (.inr ⟨q,clock,mF,g1⟩) hfn,?_⟩
    cases ok with
    |true=>exact .aC _ _ (.cons _ _ _ _ hrv (.cons _ _ _ _ (.bool _) .nil))
    |false=>exact hrv
theorem cB.iH {k v:AVal}:∀ {es:List (AVal×AVal)} {ms:List MapEntry} {j:Nat} {m:MapEntry},cB C es ms→bP C v m.val→(∀k',(es[j]?).map (·.1)=I k'→bP C k' m.key)→cB C (mW es j v) (ms.set j m)
 |_,_,j,m,.nil,_,_=>by simp[mW];exact .nil
 |_,_,0,m,.cons k' v' es m' ms h1 h2 h3,hv,hk=>by
  simp only[mW,List.set_cons_zero]
  exact .cons _ _ _ _ _ (hk k' (by simp)) hv h3
 |_,_,j+1,m,.cons k' v' es m' ms h1 h2 h3,hv,hk=>by
  simp only[mW,List.set_cons_succ]
  exact .cons _ _ _ _ _ h1 h2 (cB.iH (k:=k) h3 hv (fun k' h=>hk k' (by simpa using h)))
theorem cB.push {k v m es ms}(h:cB C es ms)(hk:bP C k m.key)(hv:bP C v m.val):cB C (es++[(k,v)]) (ms++[m]):=by
 induction h with
 |nil=>exact .cons _ _ _ _ _ hk hv .nil
 |cons k' v' es m' ms h1 h2 _ ih=>exact .cons _ _ _ _ _ h1 h2 ih
theorem qo4 (m:az P C ω w0 C0 hp w)(e:aq C ω w w0.heap.size env a.tmps){t kt el:TypeId}{x y z x' y' z' kd kv v b es h'}(ho:o.op=.mapUpdate t x y z∨o.op=.insert t x y z)(ht:P.underlying t=I (.map kt el))(iD:kF P kt=I kd)
  (h1:qt x=I x') (h2:qt y=I y') (h3:qt z=I z') (e1:qi env x'=I (.map b)) (e2:qi env y'=I kv) (e3:qi env z'=I v) (hb:hp[b]?=I (.map es))
  (hv:(∃i u,jl kd kv es 0=I (I (i,u))∧jo hp b (.map (mW es i v))=I h')∨(jl kd kv es 0=I E3∧jo hp b (.map (es++[(kv,v)]))=I h')):
  ∃w',(execOp a.eval o).run P w=.ok .skip w'∧zo P C0 w0 C a.tmps d env ⟨.undef,Ga,E3,h'⟩ undef w':=by
 have ij:=qv e.cm h2 e2
 have hvr:=qv e.cm h3 e3
 have vm:=qv e.cm h1 e1
 obtain⟨td,rj⟩:=Rp iD
 generalize mF:a.eval x=mx at vm
 cases vm with
 |map _ q oO=>
  obtain⟨b9,clock,g1,g2⟩:=m.box b _ q hb oO
  have bw:=(m.lt b q oO).1
  have done:∀(AK:List (AVal×AVal)) (rm:Array MapEntry) (kM:Nat),cB C AK rm.toList→jo hp b (.map AK)=I h' →
    (execOp a.eval o).run P w=.ok .skip (kg w q (.map rm kM))→∃w',(execOp a.eval o).run P w=.ok .skip w'∧zo P C0 w0 C a.tmps d env ⟨.undef,Ga,E3,h'⟩ undef w':=by
   intro AK rm kM wE bD bF
   obtain rfl:=AB bD
   have hu:=DG (w:=w) (r:=q) (x:=.map rm kM) bw (by simp)
   exact⟨_,bF,C,ω,aI.le_refl C,m.dO hu oO _ (fun _ _ _ _ _ h=>h) ⟨rm,kM,FN bw,wE⟩,e.dC hu oO,.undef,by simp⟩
  rcases hv with⟨i,u,hf,bD⟩|⟨hf,bD⟩
  ·obtain⟨me,_,k1,k2,k3,k4,k5,k6⟩:=FP rj iD ij g2 hf
   have vn:=FQ (w:=w) rj k5
   simp only[Nat.sub_zero]at k1 k2
   have Rr:b9[i]?=I me:=by simpa using k2
   have hlen:i<b9.size:=(Gx.1 Rr).1
   refine done (mW es i v) (b9.modify i fun e=>{ e with key:=a.eval y,val:=a.eval z }) clock ?_ bD ?_
   ·have:(b9.modify i fun e=>{ e with key:=a.eval y,val:=a.eval z }).toList=b9.toList.set i { me with key:=a.eval y,val:=a.eval z }:=by
     apply Nz
     intro j
     rw[Gp,Array.getElem?_modify,Sh]
     by_cases qO:i=j
     ·subst qO
      have hgi:=(Gx.1 Rr).2
      simp[hlen,hgi]
     ·simp[qO]
    rw[this]
    refine cB.iH (k:=kv) g2 hvr (fun k' eJ=>?_)
    rw[k1]at eJ
    cases eJ
    exact ij
   ·have gd:=x6 (P:=P) (x:=.map (b9.modify i fun e=>{ e with key:=a.eval y,val:=a.eval z }) clock) g1 (by simp)
    have FT:∀w:World,(Instr.keyThatStays (((b9[i]?).map (·.key)).getD (a.eval y)) (a.eval y)).run P w=.ok (a.eval y) w:=by
     intro w
     simp[Instr.keyThatStays,Rr,k6]
    rcases ho with ho|ho<;>simp only[execOp,ho,Instr.mapUpdate,Sem.run_bind,run_underlying ht,Result.andThen_ok,mF,pA g1 (by simp),DH iD,vn,FT,gd,Sem.run_pure]
  ·have QJ:=FP rj iD ij g2 hf
   have vn:=FQ (w:=w) rj QJ
   refine done (es++[(kv,v)]) (b9.push { key:=a.eval y,val:=a.eval z,born:=clock }) (clock+1) ?_ bD ?_
   ·rw[Array.toList_push]
    exact g2.push ij hvr
   ·have gd:=x6 (P:=P) (x:=.map (b9.push { key:=a.eval y,val:=a.eval z,born:=clock }) (clock+1)) g1 (by simp)
    rcases ho with ho|ho<;>simp only[execOp,ho,Instr.mapUpdate,Sem.run_bind,run_underlying ht,Result.andThen_ok,mF,pA g1 (by simp),DH iD,vn,gd,Sem.run_pure]
end
section
variable {P:Program}{C C0:aI}{ω:Nat→Option Loc}{w w' w0:World}{hp:qh}{env:Env}{a:Act}{o:Oper}{tmps:Array Value}{d:Loc}
theorem q0h {n sz len cap:Nat}{base:Option Addr}{cs:List Value}(hl:cs.length=n*sz)(h:∀ad,base=I ad→∀j v,cs[j]?=I v→w.cell? (ad.add j)=I v)(hn:base=E3→n=0):
  (Builtin.firstCells sz n (.slice base len cap)).run P w=.ok cs.toArray w:=by
 cases base with
 |none=>
  have:cs=[]:=by
   have:=hn rfl
   subst this
   exact List.length_eq_zero_iff.1 (by simpa using hl)
  subst this
  exact run_firstCells_none _ _ _ _ _
 |some ad=>exact run_firstCells_some w _ _ _ _ _ cs hl (h ad rfl)
theorem jgt (m:az P C ω w0 C0 hp w)(e:aq C ω w w0.heap.size env a.tmps){c:Call}{t:TypeId}{ts:List TypeId}{el:TypeId}{x y x' y' sz b q len n vy us cs ez h'}
  (ho:o.op=.call c) (dU:c.callee=.builtin .copy) (eg:c.args.toList=[x,y]) (eI:c.argTypes.toList=t::ts) (ht:P.underlying t=I (.slice el)) (hn:jp P el=I sz)
  (h1:qt x=I x') (h2:qt y=I y') (e1:qi env x'=I (.ms b q len)) (e2:qi env y'=I vy) (lv:jw hp b=I cs) (cN:Ae sz len vy=I (n,us)) (b6:jr cs q us=I ez) (QN:us.length=n*sz) (bD:jo hp b (.cells ez)=I h'):
  ∃u w',(execOp a.eval o).run P w=.ok (.value u) w'∧zo P C0 w0 C a.tmps d env ⟨.int .i64 n,Ga,E3,h'⟩ u w':=by
 obtain⟨r,cap,hr,hle,hq⟩:=(qv e.cm h1 e1).eR
 have ry:=qv e.cm h2 e2
 unfold jr at b6
 cases hb:(R8 (q+us.length) cs.length&&us.all qk)with
 |false=>simp[hb]at b6
 |true=>
  simp only[hb,cond_true,I.injEq]at b6
  simp only[Gw]at hb
  subst b6
  -- the source
  obtain⟨news,base,sl,sc,hy,cV,hcells,Rs,qT⟩:∃news base sl sc,a.eval y=.slice base sl sc∧aS C us news∧(∀ad,base=I ad→∀j v,news[j]?=I v→w.cell? (ad.add j)=I v)∧Nat.min sl len=n∧(base=E3→n=0):=by
   unfold Ae at cN
   split at cN
   ·rename_i nn sy ys
    cases hk:(Gz sz sy||ys.isEmpty)with
    |false=>simp[hk]at cN
    |true=>
     simp only[hk,cond_true,I.injEq,Prod.mk.injEq]at cN
     obtain⟨rfl,rfl⟩:=cN
     generalize a.eval y=vv at ry
     cases ry with
     |jF=>exact⟨[],E3,0,0,rfl,by simpa using aB.nil,by simp,by simp[Nat.min_def],by simp⟩
     |jG _ ad _=>exact⟨[],I ad,0,0,rfl,by simpa using aB.nil,by simp,by simp,by simp⟩
     |list _ _ r' o' kL hl db=>
      have hc:cu C r' ((ys.take len).flatMap AVal.flat) o':=bu.cells (bu.take len db)
      obtain⟨vs,k1,k2⟩:=hc.vals
      refine⟨vs,I ⟨r',o',E3⟩,ys.length,kL,rfl,k1,?_,rfl,by simp⟩
      intro ad had j v hj
      cases had
      rw[add_lit]
      exact m.know _ _ _ (k2 j v hj)
   ·cases cN
  have cW:=Av cV (by simpa using hb.2)
  obtain⟨vs,te,hg,cA,m',e'⟩:=q56 m e (wA lv) hr cV cW (Jy hb.1)
  obtain rfl:=AB bD
  have hfc:=q0h (P:=P) (w:=w) (n:=n) (sz:=sz) (len:=sl) (cap:=sc) (base:=base) (cs:=news) (by rw[cV.length,QN]) hcells qT
  have FU:=run_storeCells_at (P:=P) r q te news 0 vs w hg (by simpa using cA) cW
  simp only[Se]at FU
  have bF:(Builtin.copy_ c.argTypes o.type (c.args.map a.eval)).run P w=.ok (goInt n) (w.setRow r (vs.toList.take q++news++vs.toList.drop (q+news.length)).toArray):=by
   have ha:c.args.map a.eval=#[a.eval x,a.eval y]:=by
    apply G6;simp[eg]
   have hat:c.argTypes[0]?=I t:=by rw[←Gp,eI];rfl
   rw[ha]
   simp only[Builtin.copy_,hat,Gr,Lk,Ln,Sem.run_bind,run_underlying ht,Result.andThen_ok,hq,hy,Builtin.lenOf,Sem.run_pure,Rs,yl hn,hfc,FU]
  refine⟨goInt n,_,?_,C,ω,aI.le_refl C,m',e',?_,by simp⟩
  ·have ha:Array.map a.eval c.args=#[a.eval x,a.eval y]:=by
    apply G6;simp[eg]
   rw[ha]at bF
   simp[execOp,ho,resolve,dU,ha,invoke,builtin,bF]
  ·exact .int _ _
theorem cB.erase:∀ {es:List (AVal×AVal)} {ms:List MapEntry} (j:Nat),cB C es ms→cB C (es.eraseIdx j) (ms.eraseIdx j)
 |_,_,j,.nil=>by simpa using cB.nil
 |_,_,0,.cons k' v' es m' ms h1 h2 h3=>by simpa using h3
 |_,_,j+1,.cons k' v' es m' ms h1 h2 h3=>by simpa using .cons _ _ _ _ _ h1 h2 (cB.erase j h3)
theorem q9w (m:az P C ω w0 C0 hp w)(e:aq C ω w w0.heap.size env a.tmps){c}{t kt el:TypeId}{ts x y x' y' kd kv b es h' r}
  (ho:o.op=.call c) (dU:c.callee=.builtin .delete) (eg:c.args.toList=[x,y]) (eI:c.argTypes.toList=t::ts) (ht:P.underlying t=I (.map kt el)) (iD:kF P kt=I kd)
  (h1:qt x=I x') (h2:qt y=I y') (e1:qi env x'=I (.map b)) (e2:qi env y'=I kv) (hb:hp[b]?=I (.map es))
  (hf:jl kd kv es 0=I r) (bD:jo hp b (.map (q38 es r))=I h'):
  ∃u w',(execOp a.eval o).run P w=.ok (.value u) w'∧zo P C0 w0 C a.tmps d env ⟨.aC [],Ga,E3,h'⟩ u w':=by
 have ij:=qv e.cm h2 e2
 have vm:=qv e.cm h1 e1
 obtain⟨td,rj⟩:=Rp iD
 have ha:Array.map a.eval c.args=#[a.eval x,a.eval y]:=by
  apply G6;simp[eg]
 have hat:c.argTypes[0]?=I t:=by rw[←Gp,eI];rfl
 generalize mF:a.eval x=mx at vm
 cases vm with
 |map _ q oO=>
  obtain⟨b9,clock,g1,g2⟩:=m.box b _ q hb oO
  have bw:=(m.lt b q oO).1
  have done:∀(AK:List (AVal×AVal)) (rm:Array MapEntry),cB C AK rm.toList→jo hp b (.map AK)=I h' →
    (Builtin.delete_ c.argTypes o.type #[.map (I q),a.eval y]).run P w=.ok (.tuple #[]) (kg w q (.map rm clock))→∃u w',(execOp a.eval o).run P w=.ok (.value u) w'∧zo P C0 w0 C a.tmps d env ⟨.aC [],Ga,E3,h'⟩ u w':=by
   intro AK rm wE bD bF
   obtain rfl:=AB bD
   have hu:=DG (w:=w) (r:=q) (x:=.map rm clock) bw (by simp)
   refine⟨.tuple #[],_,?_,C,ω,aI.le_refl C,m.dO hu oO _ (fun _ _ _ _ _ h=>h) ⟨rm,clock,FN bw,wE⟩,e.dC hu oO,.aC _ _ .nil,by simp⟩
   simp[execOp,ho,resolve,dU,ha,mF,invoke,builtin,bF]
  have hfn:=FP rj iD ij g2 hf
  cases r with
  |none=>
   have vn:=FQ (w:=w) rj hfn
   refine done es b9 g2 bD ?_
   have gd:=x6 (P:=P) (x:=.map b9 clock) g1 (by simp)
   simp only[Builtin.delete_,hat,Gr,Lk,Ln,Sem.run_bind,run_underlying ht,Result.andThen_ok,pA g1 (by simp),DH iD,vn,gd,Sem.run_pure]
  |some jv=>
   obtain⟨j,v⟩:=jv
   obtain⟨me,_,k1,k2,k3,k4,k5,k6⟩:=hfn
   have vn:=FQ (w:=w) rj k5
   refine done (es.eraseIdx j) (b9.eraseIdxIfInBounds j) ?_ bD ?_
   ·have:(b9.eraseIdxIfInBounds j).toList=b9.toList.eraseIdx j:=by simp
    rw[this];exact cB.erase j g2
   ·have gd:=x6 (P:=P) (x:=.map (b9.eraseIdxIfInBounds j) clock) g1 (by simp)
    simp only[Builtin.delete_,hat,Gr,Lk,Ln,Sem.run_bind,run_underlying ht,Result.andThen_ok,pA g1 (by simp),DH iD,vn,gd,Sem.run_pure]
end
section
variable {P:Program}{p:j8}{xc:XC}{C C0:aI}{ω:Nat→Option Loc}{w w0:World}{hp:qh}{env:Env}{a:Act}{o:Oper}{d:Loc}{h:qj}{md:ei}{r h0:Nat}{dst:Option Nat}{al:Option (List Nat)}{cH:cL}{res:bh}
def yf (P:Program)(C C0:aI)(w0:World)(a:Act)(d:Loc)(env:Env)(o:Oper)(w:World)(res:bh):Prop:=
 (∃v w',(execOp a.eval o).run P w=.ok (.value v) w'∧zo P C0 w0 C a.tmps d env res v w') ∨
 (∃w',(execOp a.eval o).run P w=.ok .skip w'∧zo P C0 w0 C a.tmps d env res undef w') ∨
 (∃f args,(execOp a.eval o).run P w=.ok (.enter f args) w∧CallsIn Fence.wide 0 P f args w fun e w'=>∃v,e=.returned v∧zo P C0 w0 C a.tmps d env res v w') ∨
 (∃l f tmps assign body,(execOp a.eval o).run P w=.ok (.round l f tmps assign body) w∧RoundIn Fence.wide 0 P l f tmps assign body w fun e w'=>∃v,e=.returned v∧zo P C0 w0 C a.tmps d env res v w')
theorem ji (m:az P C ω w0 C0 hp w)(e:aq C ω w w0.heap.size env a.tmps){x}(hv:Val P C a o w x):yf P C C0 w0 a d env o w ⟨x,Ga,E3,hp⟩:=by
 obtain⟨v,h1,h2⟩:=hv
 exact .inl ⟨v,w,h1,q1z m e h2⟩
theorem qx {x}(hs:val hp x=I res):res=⟨x,Ga,E3,hp⟩:=by simpa[val]using hs.symm
theorem vo {x}(hs:gD hp x=I res):∃v,x=I v∧res=⟨v,Ga,E3,hp⟩:=by
 cases x with
 |none=>simp[gD]at hs
 |some v=>exact⟨v,rfl,by simpa[gD]using hs.symm⟩
theorem Lb (m:az P C ω w0 C0 hp w)(e:aq C ω w w0.heap.size env a.tmps){x}(ho:o.op=.move x∨o.op=.assign x){y}(hc:qt x=I y)(hs:qo env hp (.move y)=I res):yf P C C0 w0 a d env o w res:=by
 simp only[qo]at hs
 obtain⟨v,hv,rfl⟩:=vo hs
 exact ji m e (jg7 e.cm ho hc hv)
theorem q44 (m:az P C ω w0 C0 hp w)(e:aq C ω w w0.heap.size env a.tmps){s}(ho:o.op=.move (.tmp s)∨o.op=.assign (.tmp s))(hs:qo env hp (.take s)=I res):yf P C C0 w0 a d env o w res:=by
 simp only[qo]at hs
 split at hs
 ·rename_i v ow hl
  cases hs
  exact .inl (jlg m e ho hl)
 ·cases hs
theorem jik (m:az P C ω w0 C0 hp w)(e:aq C ω w w0.heap.size env a.tmps){x}(ho:o.op=.move x)(hc:cM P h md r dst (.move x)=I cH)(hs:qf p xc h0 al env hp cH=I res):yf P C C0 w0 a d env o w res:=by
 simp only[cM]at hc
 split at hc
 ·rename_i s ht
  cases hc
  unfold q8p at ht
  split at ht
  ·split at ht
   ·cases ht;exact q44 m e (.inl ho) hs
   ·cases ht
  ·cases ht
 ·obtain⟨y,hy,rfl⟩:=En.1 hc
  exact Lb m e (.inl ho) hy hs
theorem jby (m:az P C ω w0 C0 hp w)(e:aq C ω w w0.heap.size env a.tmps){x}(ho:o.op=.assign x)(hc:cM P h md r dst (.assign x)=I cH)(hs:qf p xc h0 al env hp cH=I res):yf P C C0 w0 a d env o w res:=by
 cases x with
 |tmp s=>simp only[cM]at hc;cases hc;exact q44 m e (.inr ho) hs
 |const v=>simp only[cM]at hc;obtain⟨y,hy,rfl⟩:=En.1 hc;exact Lb m e (.inr ho) hy hs
 |func v=>simp only[cM]at hc;obtain⟨y,hy,rfl⟩:=En.1 hc;exact Lb m e (.inr ho) hy hs
 |global v=>simp only[cM]at hc;obtain⟨y,hy,rfl⟩:=En.1 hc;exact Lb m e (.inr ho) hy hs
theorem jgi (m:az P C ω w0 C0 hp w)(e:aq C ω w w0.heap.size env a.tmps){c x y}(ho:o.op=.pick c x y)(hc:cM P h md r dst (.pick c x y)=I cH)(hs:qf p xc h0 al env hp cH=I res):yf P C C0 w0 a d env o w res:=by
 simp only[cM]at hc
 split at hc
 ·rename_i c' x' y' h1 h2 h3
  cases hc
  simp only[qf,qo]at hs
  split at hs
  ·rename_i b e1
   split at hs
   ·rename_i u v e2 e3
    obtain rfl:=qx hs
    exact ji m e (jhh e.cm ho h1 h2 h3 e1 e2 e3)
   ·cases hs
  ·cases hs
 ·cases hc
theorem q16 (m:az P C ω w0 C0 hp w)(e:aq C ω w w0.heap.size env a.tmps){x}(ho:o.op=.nilCheck x)(hc:cM P h md r dst (.nilCheck x)=I cH)(hs:qf p xc h0 al env hp cH=I res):yf P C C0 w0 a d env o w res:=by
 simp only[cM]at hc
 obtain⟨y,hy,rfl⟩:=En.1 hc
 simp only[qf,qo]at hs
 split at hs
 ·rename_i b q hv;obtain rfl:=qx hs;exact ji m e (qpm e.cm ho hy hv (.inl ⟨_,_,rfl⟩))
 ·rename_i z hv;obtain rfl:=qx hs;exact ji m e (qpm e.cm ho hy hv (.inr ⟨_,rfl⟩))
 ·rename_i f u v hv
  obtain rfl:=qx hs
  have hr:=qv e.cm hy hv
  refine ji m e ⟨a.eval x,?_,hr⟩
  generalize hx:a.eval x=ev at hr
  cases hr with
  |fn f f' u v as bs hf ha hb=>
   simp only[fE]at hf
   subst hf
   simp[execOp,ho,hx]
 ·cases hs
theorem jul (m:az P C ω w0 C0 hp w)(e:aq C ω w w0.heap.size env a.tmps){op}{t:TypeId}{x}(ho:o.op=.unOp op t x)(hc:cM P h md r dst (.unOp op t x)=I cH)(hs:qf p xc h0 al env hp cH=I res):yf P C C0 w0 a d env o w res:=by
 simp only[cM]at hc
 obtain⟨y,hy,rfl⟩:=En.1 hc
 simp only[qf,qo]at hs
 split at hs
 ·rename_i v hv
  obtain⟨u,hu,rfl⟩:=vo hs
  exact ji m e (jtp e.cm ho hy hv hu)
 ·cases hs
theorem jiv (m:az P C ω w0 C0 hp w)(e:aq C ω w w0.heap.size env a.tmps){s t:TypeId}{x}(ho:o.op=.convert s t x)(hc:cM P h md r dst (.convert s t x)=I cH)(hs:qf p xc h0 al env hp cH=I res):yf P C C0 w0 a d env o w res:=by
 simp only[cM]at hc
 split at hc
 ·rename_i k0 k u1 u2
  obtain⟨y,hy,rfl⟩:=En.1 hc
  simp only[qf,qo]at hs
  split at hs
  ·rename_i k1 n hv
   obtain rfl:=qx hs
   exact ji m e (jks e.cm ho u1 u2 hy hv)
  ·cases hs
 ·rename_i u1 u2
  obtain⟨y,hy,rfl⟩:=En.1 hc
  simp only[qf,qo]at hs
  split at hs
  ·rename_i l hv
   obtain rfl:=qx hs
   exact ji m e (q6t e.cm ho u1 u2 hy hv ⟨_,rfl⟩)
  ·rename_i k1 n hv
   obtain rfl:=qx hs
   exact ji m e (q31 e.cm ho u1 u2 hy hv)
  ·cases hs
 ·rename_i k0 u1 u2
  obtain⟨y,hy,rfl⟩:=En.1 hc
  simp only[qf,qo]at hs
  split at hs
  ·rename_i l hv
   obtain rfl:=qx hs
   exact ji m e (q3r e.cm ho u1 u2 hy hv ⟨_,rfl⟩)
  ·rename_i k1 n hv
   obtain rfl:=qx hs
   exact ji m e (q7k e.cm ho u1 u2 hy hv)
  ·cases hs
 ·cases hc
theorem q71 {ag n y}(hs:qo env hp (.ft ag n y)=I res):yi h0 al env hp (.load ag n y)=I res:=by
 simp only[qo]at hs
 simp only[yi]
 split at hs
 ·rename_i v hv
  rw[hv];exact hs
 ·cases hs
theorem qzx {g}:∀ {l:List (String×List Int)} {cs:List Int},Fi P g l=I cs→∃n,(n,cs)∈l∧P.globalNamed n=I g
 | [],_,h=>by simp[Fi]at h
 |(n,ds)::l,cs,h=>by
  simp only[Fi]at h
  split at h
  ·rename_i hn
   cases h
   exact⟨n,Sc ..,by simpa using hn⟩
  ·obtain⟨n',h1,h2⟩:=qzx h
   exact⟨n',R7 _ h1,h2⟩
theorem jfp {ns:List Int}:aS C (ns.map (AVal.int .i64)) (ns.map (Value.int .i64)):=by
 induction ns with
 |nil=>exact .nil
 |cons n ns ih=>exact .cons _ _ _ _ (.int _ _) ih
theorem jdg (m:az P C ω w0 C0 hp w)(e:aq C ω w w0.heap.size env a.tmps){t:TypeId}{g}(ho:o.op=.load t (.global g))(hc:cM P h md r dst (.load t (.global g))=I cH)(hs:qf p xc h0 al env hp cH=I res):yf P C C0 w0 a d env o w res:=by
 have hc:KN P t g=I cH:=hc
 unfold KN at hc
 split at hc
 ·rename_i cs n hf hg hn
  split at hc
  ·rename_i hl
   cases hc
   have hl:cs.length=n:=by simpa using hl
   simp only[qf,qo,qi]at hs
   obtain⟨u,hu,rfl⟩:=vo hs
   cases hu
   obtain⟨nm,dh,hnm⟩:=qzx hf
   have ht:=(m.tabs g (.inr (.inr ⟨_,dh,hnm⟩))).2.2.2 _ dh hnm
   have dY:∀j v,(cs.map (Value.int .i64))[j]?=I v→w.cell? ⟨g,0+j,E3⟩=I v:=by
    intro j v hj
    rw[Jq,En]at hj
    obtain⟨i,hi,rfl⟩:=hj
    rw[Sg]
    exact ht j i hi
   have FV:=FD (P:=P) (w:=w) hg hn (vs:=cs.map (Value.int .i64)) (by simpa using hl) dY
   refine ji m e ⟨.agg ⟨cs.map (Value.int .i64)⟩,?_,.agg _ _ jfp⟩
   have gW:a.eval (.global g)=.pointer (I ⟨g,0,E3⟩):=rfl
   simp[execOp,ho,Instr.loadAt,gW,Instr.sureAddr,FV]
  ·cases hc
 ·cases hc
theorem jkf (m:az P C ω w0 C0 hp w)(e:aq C ω w w0.heap.size env a.tmps){t:TypeId}{x}(ho:o.op=.load t x)(hc:cM P h md r dst (.load t x)=I cH)(hs:qf p xc h0 al env hp cH=I res):yf P C C0 w0 a d env o w res:=by
 have key:∀ {ag:Bool} {n:Nat} {y:jt},yo P t=I ag→jp P t=I n→(ag=Ga→n=1)→qt x=I y→yi h0 al env hp (.load ag n y)=I res→yf P C C0 w0 a d env o w res:=by
  intro ag n y hg hn FF hy hs
  simp only[yi]at hs
  split at hs
  ·rename_i b q hv
   cases hk:zc h0 al b with
   |false=>simp[hk]at hs
   |true=>
    simp only[hk,cond_true]at hs
    split at hs
    ·rename_i cs hcs
     split at hs
     ·rename_i us gU
      cases ag with
      |true=>
       simp only[cond_true]at hs
       obtain rfl:=qx hs
       exact ji m e (Q6 m e.cm ho hg hn FF hy hv (.inl ⟨b,q,cs,us,rfl,hcs,gU,.inl ⟨rfl,rfl⟩⟩))
      |false=>
       simp only[cond_false]at hs
       split at hs
       ·obtain rfl:=qx hs
        exact ji m e (Q6 m e.cm ho hg hn FF hy hv (.inl ⟨b,q,cs,_,rfl,hcs,gU,.inr ⟨rfl,rfl⟩⟩))
       ·cases hs
     ·cases hs
    ·cases hs
  ·rename_i z hv
   cases hk:(Bool.xor ag z.isAgg||!(Gz z.flat.length n))with
   |true=>simp[hk]at hs
   |false=>
    simp only[hk,cond_false]at hs
    obtain rfl:=qx hs
    simp only[Bool.or_eq_false_iff,Bool.not_eq_false']at hk
    exact ji m e (Q6 m e.cm ho hg hn FF hy hv (.inr ⟨rfl,hk.1,Gd hk.2⟩))
  ·rename_i b bJ q hv
   cases hk:uX h0 al b with
   |false=>simp[hk]at hs
   |true=>
    simp only[hk,cond_true]at hs
    split at hs
    ·rename_i sz dA xs gI
     cases dk:(Gz bJ dA&&R8 (q+n) (xs.flatMap AVal.flat).length)with
     |false=>rw[dk]at hs;cases hs
     |true=>
      rw[dk]at hs
      simp only[cond_true]at hs
      simp only[Gw]at dk
      obtain rfl:=Gd dk.1
      have hl:=Jy dk.2
      cases ag with
      |true=>
       simp only[cond_true]at hs
       obtain rfl:=qx hs
       exact ji m e (q0b m e.cm ho hg hn hy hv gI hl (.inl ⟨rfl,rfl⟩))
      |false=>
       simp only[cond_false]at hs
       split at hs
       ·rename_i z hz
        obtain rfl:=qx hs
        exact ji m e (q0b m e.cm ho hg hn hy hv gI hl (.inr ⟨rfl,hz⟩))
       ·cases hs
    ·cases hs
  ·cases hs
 by_cases hx:∃g,x=.global g
 ·obtain⟨g,rfl⟩:=hx
  exact jdg m e ho hc hs
 have hc:(match yo P t,jp P t,qt x with
  |some Ga,I 1,I x=>if(dst.map (h.takes.contains ·)).getD Ga then I (cL.cy ((dst.bind fun d=>h.bS.find? fun y=>y.1 == d).map (·.2)) x)else I (bif (dst.map (h.vl.contains ·)).getD Ga then .ft Ga 1 x else .load Ga 1 x)
  |some Gc,I n,I x=>I (bif (dst.map (h.vl.contains ·)).getD Ga then .ft Gc n x else .load Gc n x)
  |_,_,_=>E3)=I cH:=by
  cases x with
  |global g=>exact absurd ⟨g,rfl⟩ hx
  |_=>exact hc
 split at hc
 ·rename_i y hg hn hy
  split at hc
  ·cases hc
   simp only[qf,qp]at hs
   split at hs
   ·rename_i b q hv
    generalize (zc h0 al b&&uY _ q)=kk at hs
    cases kk with
    |false=>simp at hs
    |true=>
     simp only[cond_true]at hs
     split at hs
     ·rename_i cs hcs
      split at hs
      ·rename_i v ow hq
       split at hs
       ·rename_i h' bD
        cases hs
        exact .inl (q3j m e ho hg hy hv hcs hq bD)
       ·cases hs
      ·cases hs
     ·cases hs
   ·cases hs
  ·cases hc
   generalize (dst.map (h.vl.contains ·)).getD Ga=bb at hs
   cases bb with
   |false=>exact key hg hn (fun _=>rfl) hy hs
   |true=>exact key hg hn (fun _=>rfl) hy (q71 hs)
 ·rename_i n y hg hn hy
  cases hc
  generalize (dst.map (h.vl.contains ·)).getD Ga=bb at hs
  cases bb with
  |false=>exact key hg hn (by simp) hy hs
  |true=>exact key hg hn (by simp) hy (q71 hs)
 ·cases hc
theorem jfb (m:az P C ω w0 C0 hp w)(e:aq C ω w w0.heap.size env a.tmps){t:TypeId}{x y}(ho:o.op=.store t x y)(nw:cH.ib=E3)(hc:cM P h md r dst (.store t x y)=I cH)(hs:qf p xc h0 al env hp cH=I res):yf P C C0 w0 a d env o w res:=by
 simp only[cM]at hc
 split at hc
 ·rename_i n x' y' hn h1 h2
  cases lO:KO h x' with
  |some s=>rw[lO]at hc;simp only[I.injEq]at hc;subst hc;simp[cL.ib]at nw
  |none=>
  rw[lO]at hc
  simp only[I.injEq]at hc
  subst hc
  simp only[qf,qp]at hs
  split at hs
  ·rename_i b q v e1 e2
   cases hk:zc h0 al b with
   |false=>simp[hk]at hs
   |true=>
    simp only[hk,cond_true]at hs
    split at hs
    ·rename_i cs hcs
     split at hs
     ·rename_i s cQ
      cases hb:(Gz n 1&&v.cJ&&Tt q cs.length)with
      |false=>simp[hb]at hs
      |true=>
       simp only[hb,cond_true]at hs
       simp only[Gw]at hb
       obtain⟨⟨lu,lP⟩,FW⟩:=hb
       obtain rfl:=Gd lu
       split at hs
       ·rename_i h' bD
        cases hs
        exact .inr (.inl (q2g m e ho hn h1 h2 e1 e2 hcs lP (Sk.mp FW) cQ bD))
       ·cases hs
     ·cases hb:Gz v.flat.length n with
      |false=>simp[hb]at hs
      |true=>
       simp only[hb,cond_true]at hs
       split at hs
       ·rename_i ez b6
        split at hs
        ·rename_i h' bD
         obtain rfl:=qx hs
         exact .inr (.inl (jdi m e ho hn h1 h2 e1 e2 hcs (Gd hb) b6 bD))
        ·cases hs
       ·cases hs
    ·cases hs
  ·cases hs
 ·cases hc
theorem jer {P}{t:TypeId}{e:TypeId}(h:Qx P t=I e):∃sz,yr P t=I [.bZ,.list Gc sz []]:=by
 unfold Qx at h
 split at h
 ·split at h
  ·split at h
   ·split at h
    ·rename_i sz h1 h2
     exact⟨_,h2⟩
    ·cases h
   ·cases h
  ·cases h
 ·cases h
theorem jdk (m:az P C ω w0 C0 hp w)(e:aq C ω w w0.heap.size env a.tmps){t:TypeId}(ho:o.op=.alloc t)(hc:cM P h md r dst (.alloc t)=I cH)(hs:qf p xc h0 al env hp cH=I res):yf P C C0 w0 a d env o w res:=by
 simp only[cM]at hc
 split at hc
 ·rename_i e' he
  cases hc
  obtain⟨sz,hz⟩:=jer he
  simp only[qf,qp]at hs
  split at hs
  ·rename_i h' hn
   obtain rfl:=qx hs
   exact .inl (jqa m e ho hz hn)
  ·cases hs
 generalize (dst.map (h.vl.contains ·)).getD Ga=bb at hc
 cases bb with
 |true=>
  simp only[cond_true]at hc
  split at hc
  ·rename_i z hz
   cases hb:z.all qk with
   |false=>rw[hb]at hc;cases hc
   |true=>
    rw[hb]at hc
    simp only[cond_true,I.injEq]at hc
    subst hc
    simp only[qf,qo,I.injEq]at hs
    subst hs
    exact .inl (jcs m e ho hz)
  ·cases hc
 |false=>
 simp only[cond_false]at hc
 obtain⟨z,hz,rfl⟩:=En.1 hc
 simp only[qf,qp]at hs
 cases hb:z.all qk with
 |false=>simp[hb]at hs
 |true=>
  simp only[hb,cond_true]at hs
  split at hs
  ·rename_i h' hn
   obtain rfl:=qx hs
   exact .inl (jew m e ho hz (by simpa using hb) hn)
  ·cases hs
theorem jow (m:az P C ω w0 C0 hp w)(e:aq C ω w w0.heap.size env a.tmps){t:TypeId}{x}(ho:o.op=.box t x)(hc:cM P h md r dst (.box t x)=I cH)(hs:qf p xc h0 al env hp cH=I res):yf P C C0 w0 a d env o w res:=by
 simp only[cM]at hc
 split at hc
 ·rename_i n x' hn h1
  cases hc
  generalize (dst.map (h.vl.contains ·)).getD Ga=bb at hs
  cases bb with
  |true=>
   simp only[cond_true,qf,qo]at hs
   split at hs
   ·rename_i v hv
    cases hb:(Gz v.flat.length n&&v.flat.all qk)with
    |false=>simp[hb]at hs
    |true=>
     simp only[hb,cond_true]at hs
     simp only[Gw]at hb
     obtain rfl:=qx hs
     exact .inl (jf7 m e ho h1 hv hb.2)
   ·cases hs
  |false=>
   simp only[cond_false]at hs
   simp only[qf,qp]at hs
   split at hs
   ·rename_i v hv
    cases hb:(Gz v.flat.length n&&v.flat.all qk)with
    |false=>simp[hb]at hs
    |true=>
     simp only[hb,cond_true]at hs
     simp only[Gw]at hb
     split at hs
     ·rename_i h' iY
      obtain rfl:=qx hs
      exact .inl (jqx m e ho h1 hv hb.2 iY)
     ·cases hs
   ·cases hs
 ·cases hc
theorem q6o (m:az P C ω w0 C0 hp w)(e:aq C ω w w0.heap.size env a.tmps){i x}(ho:o.op=.extract x i)(hc:cM P h md r dst (.extract x i)=I cH)(hs:qf p xc h0 al env hp cH=I res):yf P C C0 w0 a d env o w res:=by
 simp only[cM]at hc
 obtain⟨y,hy,rfl⟩:=En.1 hc
 simp only[qf,qo]at hs
 split at hs
 ·rename_i vs hv
  obtain⟨u,hu,rfl⟩:=vo hs
  exact ji m e (q7d e.cm ho hy hv hu)
 ·cases hs
theorem q2q (m:az P C ω w0 C0 hp w)(e:aq C ω w w0.heap.size env a.tmps){f xs ys}(ho:o.op=.makeFunc f xs ys)(hc:cM P h md r dst (.makeFunc f xs ys)=I cH)(hs:qf p xc h0 al env hp cH=I res):yf P C C0 w0 a d env o w res:=by
 simp only[cM]at hc
 split at hc
 ·split at hc
  ·rename_i k fR og h1 h2
   cases hc
   simp only[qf,qo]at hs
   split at hs
   ·rename_i us vs e1 e2
    obtain rfl:=qx hs
    exact ji m e (jbu e.cm ho h1 h2 e1 e2)
   ·cases hs
  ·cases hc
 ·cases hc
theorem q7c (m:az P C ω w0 C0 hp w)(e:aq C ω w w0.heap.size env a.tmps){t:TypeId}{x}(ho:o.op=.makeMap t x)(hc:cM P h md r dst (.makeMap t x)=I cH)(hs:qf p xc h0 al env hp cH=I res):yf P C C0 w0 a d env o w res:=by
 cases x with
 |some x=>simp[cM]at hc
 |none=>
  simp only[cM]at hc
  split at hc
  ·cases hc
   simp only[qf,qp]at hs
   split at hs
   ·rename_i h' hn
    obtain rfl:=qx hs
    exact .inl (jdu m e ho hn)
   ·cases hs
  ·cases hc
theorem jfo (m:az P C ω w0 C0 hp w)(e:aq C ω w w0.heap.size env a.tmps){t:TypeId}{x}(ho:o.op=.range t x)(hc:cM P h md r dst (.range t x)=I cH)(hs:qf p xc h0 al env hp cH=I res):yf P C C0 w0 a d env o w res:=by
 simp only[cM]at hc
 split at hc
 ·rename_i ht
  obtain⟨y,hy,rfl⟩:=En.1 hc
  simp only[qf,qp]at hs
  split at hs
  ·rename_i s hv
   split at hs
   ·rename_i h' hn
    obtain rfl:=qx hs
    exact .inl (jc2 m e ho ht hy hv hn)
   ·cases hs
  ·cases hs
 ·cases hc
theorem jlj (m:az P C ω w0 C0 hp w)(e:aq C ω w w0.heap.size env a.tmps){x b}(ho:o.op=.next x b)(hc:cM P h md r dst (.next x b)=I cH)(hs:qf p xc h0 al env hp cH=I res):yf P C C0 w0 a d env o w res:=by
 cases b with
 |false=>simp[cM]at hc
 |true=>
  simp only[cM]at hc
  obtain⟨y,hy,rfl⟩:=En.1 hc
  simp only[qf,qp]at hs
  split at hs
  ·rename_i b hv
   cases hk:zc h0 al b with
   |false=>simp[hk]at hs
   |true=>
    simp only[hk,cond_true]at hs
    split at hs
    ·rename_i s pos hb
     obtain⟨k1,k2⟩:=jfy (d:=d) m e ho hy hv hb
     cases hp:Tt pos s.length with
     |true=>
      simp only[hp,cond_true]at hs
      split at hs
      ·rename_i h' bD
       obtain rfl:=qx hs
       exact .inl (k1 (Sk.mp hp) h' bD)
      ·cases hs
     |false=>
      simp only[hp,cond_false]at hs
      obtain rfl:=qx hs
      exact .inl (k2 (fun h=>by rw[Sk.mpr h]at hp;cases hp))
    ·cases hs
  ·cases hs
theorem q85 (m:az P C ω w0 C0 hp w)(e:aq C ω w w0.heap.size env a.tmps){t:TypeId}{x y ok}(ho:o.op=.lookup t x y ok)(hc:cM P h md r dst (.lookup t x y ok)=I cH)(hs:qf p xc h0 al env hp cH=I res):yf P C C0 w0 a d env o w res:=by
 simp only[cM]at hc
 split at hc
 ·rename_i kt el ht
  split at hc
  ·rename_i kd z x' y' iD hz h1 h2
   cases hc
   simp only[qf,yi]at hs
   split at hs
   ·rename_i b kv e1 e2
    cases hk:zc h0 al b with
    |false=>simp[hk]at hs
    |true=>
     simp only[hk,cond_true]at hs
     split at hs
     ·rename_i es hb
      split at hs
      ·rename_i i v hf
       obtain rfl:=qx hs
       exact ji m e (Rq m e ho ht iD hz h1 h2 e1 e2 (.inr ⟨b,es,rfl,hb,hf⟩))
      ·rename_i hf
       obtain rfl:=qx hs
       exact ji m e (Rq m e ho ht iD hz h1 h2 e1 e2 (.inr ⟨b,es,rfl,hb,hf⟩))
      ·cases hs
     ·cases hs
   ·rename_i kv e1 e2
    obtain rfl:=qx hs
    exact ji m e (Rq m e ho ht iD hz h1 h2 e1 e2 (.inl ⟨rfl,rfl⟩))
   ·cases hs
  ·cases hc
 ·cases hc
theorem qo1 (m:az P C ω w0 C0 hp w)(e:aq C ω w w0.heap.size env a.tmps){t:TypeId}{x y z}(ho:o.op=.mapUpdate t x y z∨o.op=.insert t x y z)(hc:cM P h md r dst (.mapUpdate t x y z)=I cH)(hs:qf p xc h0 al env hp cH=I res):yf P C C0 w0 a d env o w res:=by
 simp only[cM]at hc
 split at hc
 ·rename_i kt el ht
  split at hc
  ·rename_i kd x' y' z' iD h1 h2 h3
   cases hc
   simp only[qf,qp]at hs
   split at hs
   ·rename_i b kv v e1 e2 e3
    cases hk:zc h0 al b with
    |false=>simp[hk]at hs
    |true=>
     simp only[hk,cond_true]at hs
     split at hs
     ·rename_i es hb
      split at hs
      ·rename_i i u hf
       split at hs
       ·rename_i h' bD
        obtain rfl:=qx hs
        exact .inr (.inl (qo4 m e ho ht iD h1 h2 h3 e1 e2 e3 hb (.inl ⟨i,u,hf,bD⟩)))
       ·cases hs
      ·rename_i hf
       cases hl:R8 es.length 1073741824 with
       |false=>simp[hl]at hs
       |true=>
        simp only[hl,cond_true]at hs
        split at hs
        ·rename_i h' bD
         obtain rfl:=qx hs
         exact .inr (.inl (qo4 m e ho ht iD h1 h2 h3 e1 e2 e3 hb (.inr ⟨hf,bD⟩)))
        ·cases hs
      ·cases hs
     ·cases hs
   ·cases hs
  ·cases hc
 ·cases hc
end
section
variable {P:Program}{p:j8}{xc:XC}{C C0:aI}{ω:Nat→Option Loc}{w w0:World}{hp:qh}{env:Env}{a:Act}{o:Oper}{d:Loc}{h:qj}{md:ei}{r h0:Nat}{dst:Option Nat}{al:Option (List Nat)}{cH:cL}{res:bh}
theorem vp (w:World){d}{t:TypeId}{x y b}{u:TypeDesc}(h:(∃e,u=.slice e∧y=.slice E3 0 0∧∃q l c,x=.slice q l c∧b=q.isNone)∨(∃e,u=.pointer e∧y=.pointer E3∧∃q,x=.pointer q∧b=q.isNone) ∨
  (∃k e,u=.map k e∧y=.map E3∧∃q,x=.map q∧b=q.isNone)∨(∃k e v,u=.func k e v∧y=.nilFunc∧((x=.nilFunc∧b=Gc)∨∃f i j,x=.func f i j∧b=Ga))) (ht:P.underlying t=I u):
  (Op.equalIn (d+1) t x y).run P w=.ok b w:=by
 rcases h with⟨e,rfl,rfl,q,l,c,rfl,rfl⟩|⟨e,rfl,rfl,q,rfl,rfl⟩|⟨k,e,rfl,rfl,q,rfl,rfl⟩|⟨k,e,v,rfl,rfl,⟨rfl,rfl⟩|⟨f,i,j,rfl,rfl⟩⟩
 ·cases q<;>simp[Op.equalIn,run_underlying ht]
 ·cases q<;>simp[Op.equalIn,run_underlying ht]
 ·cases q<;>simp[Op.equalIn,run_underlying ht]
 ·simp[Op.equalIn,run_underlying ht]
 ·simp[Op.equalIn,run_underlying ht]
theorem vq (m:az P C ω w0 C0 hp w)(e:aq C ω w w0.heap.size env a.tmps){op}{t u:TypeId}{x y neq b c}(ho:o.op=.binOp op t x y u)(hop:op=if neq then .neq else .eql)(hy:a.eval y=c)
  (bG:(∀k n,a.eval x≠.int k n)∧(∀s,a.eval x≠.string s)∧(∀k n,a.eval x≠.float k n)∧(∀k n m,a.eval x≠.complex k n m)) (da:∀cs,a.eval x≠.agg cs) (QS:a.eval x≠.nilIface)
  (hq:(Op.equal t (a.eval x) c).run P w=.ok b w) {z} (hz:z=bif neq then !b else b):yf P C C0 w0 a d env o w ⟨.bool z,Ga,E3,hp⟩:=by
 subst hz
 exact ji m e (jeu ho hop hy bG da QS hq)
theorem Lc (m:az P C ω w0 C0 hp w)(e:aq C ω w w0.heap.size env a.tmps){op}{t u:TypeId}{x y y' neq k c}(ho:o.op=.binOp op t x y u)(hop:op=if neq then .neq else .eql)(hx:qt x=I y')(hy:y=.const c)
  (hk:(k=0∧(∃el,P.underlying t=I (.slice el))∧c=.slice E3 0 0)∨(k=1∧(∃el,P.underlying t=I (.pointer el))∧c=.pointer E3)∨(k=2∧(∃k v,P.underlying t=I (.map k v))∧c=.map E3)∨(k=3∧(∃a b c,P.underlying t=I (.func a b c))∧c=.nilFunc))
  (hs:qf p xc h0 al env hp (.fA k neq y')=I res):yf P C C0 w0 a d env o w res:=by
 have pB:a.eval y=c:=by subst hy;simp[Act.eval]
 rcases hk with⟨rfl,⟨el,ht⟩,rfl⟩|⟨rfl,⟨el,ht⟩,rfl⟩|⟨rfl,⟨k,el,ht⟩,rfl⟩|⟨rfl,⟨k,el,q,ht⟩,rfl⟩
 ·simp only[qf,qo]at hs
  split at hs<;>first|(exfalso;omega)|skip
  ·rename_i n sz xs _ hv
   obtain rfl:=qx hs
   rcases(qv e.cm hx hv).cU with⟨rfl,rfl,h1⟩|⟨h1,r,q,cap,h2,_⟩|⟨h1,_,ad,_,h2⟩
   ·exact vq m e ho hop pB (by simp[h1]) (by simp[h1]) (by simp[h1]) (b:=true) (by rw[h1];exact vp w (d:=9999) (by simp) ht) (by cases neq<;>rfl)
   all_goals
    subst h1
    exact vq m e ho hop pB (by simp[h2]) (by simp[h2]) (by simp[h2]) (b:=false) (by rw[h2];exact vp w (d:=9999) (by simp) ht) (by cases neq<;>rfl)
  ·rename_i b q n _ hv
   obtain rfl:=qx hs
   have hr:=qv e.cm hx hv
   generalize h2:a.eval x=ev at hr
   cases hr with
   |ms b o len r cap hb hl=>
    exact vq m e ho hop pB (by simp[h2]) (by simp[h2]) (by simp[h2]) (b:=false) (by rw[h2];exact vp w (d:=9999) (by simp) ht) (by cases neq<;>rfl)
  ·cases hs
 ·simp only[qf,qo]at hs
  split at hs<;>first|(exfalso;omega)|skip
  ·rename_i _ hv
   obtain rfl:=qx hs
   have hr:=qv e.cm hx hv
   generalize h2:a.eval x=ev at hr
   cases hr
   exact vq m e ho hop pB (by simp[h2]) (by simp[h2]) (by simp[h2]) (b:=true) (by rw[h2];exact vp w (d:=9999) (by simp) ht) (by cases neq<;>rfl)
  ·rename_i _ hv
   obtain rfl:=qx hs
   obtain⟨r,hr,h2⟩:=(qv e.cm hx hv).dj
   exact vq m e ho hop pB (by simp[h2]) (by simp[h2]) (by simp[h2]) (b:=false) (by rw[h2];exact vp w (d:=9999) (by simp) ht) (by cases neq<;>rfl)
  ·rename_i _ hv
   obtain rfl:=qx hs
   obtain⟨r,q,h2,_⟩:=(qv e.cm hx hv).eQ
   exact vq m e ho hop pB (by simp[h2]) (by simp[h2]) (by simp[h2]) (b:=false) (by rw[h2];exact vp w (d:=9999) (by simp) ht) (by cases neq<;>rfl)
  ·cases hs
 ·simp only[qf,qo]at hs
  split at hs<;>first|(exfalso;omega)|skip
  ·rename_i _ hv
   obtain rfl:=qx hs
   have hr:=qv e.cm hx hv
   generalize h2:a.eval x=ev at hr
   cases hr
   exact vq m e ho hop pB (by simp[h2]) (by simp[h2]) (by simp[h2]) (b:=true) (by rw[h2];exact vp w (d:=9999) (by simp) ht) (by cases neq<;>rfl)
  ·rename_i _ hv
   obtain rfl:=qx hs
   have hr:=qv e.cm hx hv
   generalize h2:a.eval x=ev at hr
   cases hr
   exact vq m e ho hop pB (by simp[h2]) (by simp[h2]) (by simp[h2]) (b:=false) (by rw[h2];exact vp w (d:=9999) (by simp) ht) (by cases neq<;>rfl)
  ·cases hs
 ·simp only[qf,qo]at hs
  split at hs<;>first|(exfalso;omega)|skip
  ·rename_i _ hv
   obtain rfl:=qx hs
   have hr:=qv e.cm hx hv
   generalize h2:a.eval x=ev at hr
   cases hr
   exact vq m e ho hop pB (by simp[h2]) (by simp[h2]) (by simp[h2]) (b:=true) (by rw[h2];exact vp w (d:=9999) (by simp) ht) (by cases neq<;>rfl)
  ·rename_i _ hv
   obtain rfl:=qx hs
   have hr:=qv e.cm hx hv
   generalize h2:a.eval x=ev at hr
   cases hr
   exact vq m e ho hop pB (by simp[h2]) (by simp[h2]) (by simp[h2]) (b:=false) (by rw[h2];exact vp w (d:=9999) (by simp) ht) (by cases neq<;>rfl)
  ·cases hs
theorem Rt (m:az P C ω w0 C0 hp w)(e:aq C ω w w0.heap.size env a.tmps){op}{t u:TypeId}{x y x' y'}(ho:o.op=.binOp op t x y u)(h1:qt x=I x')(h2:qt y=I y')(hs:qf p xc h0 al env hp (.bin op x' y')=I res):yf P C C0 w0 a d env o w res:=by
 simp only[qf,qo]at hs
 split at hs
 ·rename_i u v e1 e2
  obtain⟨z,hz,rfl⟩:=vo hs
  exact ji m e (jpc e.cm ho h1 h2 e1 e2 hz)
 ·cases hs
theorem qu3 (m:az P C ω w0 C0 hp w)(e:aq C ω w w0.heap.size env a.tmps){op}{t u:TypeId}{x y neq}(ho:o.op=.binOp op t x y u)(hop:op=if neq then .neq else .eql)(hc:Dt P op neq t x y=I cH)(hs:qf p xc h0 al env hp cH=I res):yf P C C0 w0 a d env o w res:=by
 have dL:Dt P op neq t x y=I cH:=hc
 unfold Dt at dL
 have eqs:∀ {ks:List Kd} {x' y':jt},yo P t=I Gc→P.eqGuardType P.depth t=Ga→vb P KM t=I ks→qt x=I x'→qt y=I y'→qf p xc h0 al env hp (.eqs ks neq x' y')=I res→yf P C C0 w0 a d env o w res:=by
  intro ks x' y' da hg hk h1 h2 hs
  simp only[qf,qo]at hs
  split at hs
  ·rename_i u v e1 e2
   cases hb:(Gz u.length ks.length&&Gz v.length ks.length)with
   |false=>simp[hb]at hs
   |true=>
    simp only[hb,cond_true]at hs
    simp only[Gw]at hb
    split at hs
    ·rename_i b hq
     obtain rfl:=qx hs
     exact ji m e (jrb e.cm ho hop h1 h2 e1 e2 hg hk da (Gd hb.1) (Gd hb.2) hq)
    ·cases hs
  ·cases hs
 split at dL
 ·split at dL
  ·rename_i h1 h2;cases dL;exact Rt m e ho h1 h2 hs
  ·cases dL
 ·split at dL
  ·rename_i h1 h2;cases dL;exact Rt m e ho h1 h2 hs
  ·cases dL
 ·rename_i ht
  split at dL
  ·rename_i h1 h2
   cases dL
   simp only[qf,qo]at hs
   split at hs
   ·rename_i u v e1 e2
    obtain rfl:=qx hs
    exact ji m e (jnw e.cm ho hop h1 h2 e1 e2 ht)
   ·cases hs
  ·cases dL
 ·rename_i fs ht
  split at dL
  ·rename_i hg
   split at dL
   ·rename_i ks x' y' hk h1 h2;cases dL;exact eqs (by simp[yo,ht]) (by simpa using hg) hk h1 h2 hs
   ·cases dL
  ·cases dL
 ·rename_i fs _ ht
  split at dL
  ·rename_i hg
   split at dL
   ·rename_i ks x' y' hk h1 h2;cases dL;exact eqs (by simp[yo,ht]) (by simpa using hg) hk h1 h2 hs
   ·cases dL
  ·cases dL
 ·rename_i el ht
  split at dL
  ·obtain⟨x',hx,rfl⟩:=En.1 dL
   exact Lc m e ho hop hx rfl (.inl ⟨rfl,⟨el,ht⟩,rfl⟩) hs
  ·cases dL
 ·rename_i el ht
  split at dL
  ·obtain⟨x',hx,rfl⟩:=En.1 dL
   exact Lc m e ho hop hx rfl (.inr (.inl ⟨rfl,⟨el,ht⟩,rfl⟩)) hs
  ·cases dL
 ·rename_i el _ ht
  split at dL
  ·obtain⟨x',hx,rfl⟩:=En.1 dL
   exact Lc m e ho hop hx rfl (.inr (.inr (.inl ⟨rfl,⟨_,_,ht⟩,rfl⟩))) hs
  ·cases dL
 ·rename_i el _ _ ht
  split at dL
  ·obtain⟨x',hx,rfl⟩:=En.1 dL
   exact Lc m e ho hop hx rfl (.inr (.inr (.inr ⟨rfl,⟨_,_,_,ht⟩,rfl⟩))) hs
  ·cases dL
 ·cases dL
theorem jol (m:az P C ω w0 C0 hp w)(e:aq C ω w w0.heap.size env a.tmps){op}{t u:TypeId}{x y}(ho:o.op=.binOp op t x y u)(hc:cM P h md r dst (.binOp op t x y u)=I cH)(hs:qf p xc h0 al env hp cH=I res):yf P C C0 w0 a d env o w res:=by
 simp only[cM]at hc
 unfold Qz at hc
 split at hc
 ·exact qu3 (neq:=false) m e ho rfl hc hs
 ·exact qu3 (neq:=true) m e ho rfl hc hs
 ·split at hc
  ·rename_i h1 h2;cases hc;exact Rt m e ho h1 h2 hs
  ·cases hc
end
end Go.Abs
