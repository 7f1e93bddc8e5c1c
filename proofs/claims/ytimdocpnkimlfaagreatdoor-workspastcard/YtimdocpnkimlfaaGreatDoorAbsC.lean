/- Operations that make a new slice. -/
import Derived.Test.YtimdocpnkimlfaaGreatDoorAbsA
set_option linter.unusedVariables false
set_option linter.unusedSimpArgs false
open Option renaming some→I,map_eq_some_iff→En,none→Ga,isSome_none→Jp,isSome_iff_exists→Ry
open Bool renaming false→Gb,true→Gd,and_eq_true→Gy,false_eq_true→Hb,or_false→Yg
open Nat renaming eq_of_beq_eq_true→Ge,le_refl→Gn,mul_le_mul_right→Gx,beq→G7,le_trans→If,add_mul→Me,le_of_ble_eq_true→Ny,mul_le_mul→Nz,beq_refl→St,mul_eq_zero→Tm,ble→Tp,succ_mul→T6,add_zero→Ue,zero_add→Ul,blt_eq→Ye,blt→Yj
open List renaming replicate→Gh,getElem?_append_left→Gi,getElem?_eq_some_iff→Gj,getElem?_append_right→Gm,getElem?_eq_getElem→Gr,getElem?_toArray→Gs,getElem?_set_self→G9,getElem?_take_of_lt→Hc,mem_of_getElem?→Hd,append_assoc→Ig,getElem?_set_ne→Ik,replicate_succ→Ix,mem_replicate→Jk,mem_append→Jq,getElem?_map→Jr,getElem?_eq_none→Lg,flatMap_cons→Lh,length_set→Qw,length_append→Rz,getElem?_cons_zero→R3,getElem?_cons_succ→R4,flatten_cons→R5,size_toArray→R6,mem_of_mem_take→R7,getElem?_of_mem→R8,nil_append→R9,getElem?_drop→Sb,ext_getElem?→Sc,all_eq_true→Sf,mem_flatten→Sh,mem_map→Si,mem_cons_of_mem→Tn,flatMap_append→T3,getElem?_take→T4,mem_cons_self→T5,set_set→Uf,getElem?_set→X2,length_take→X6,length_map→Yb,mem_cons→Yf,take→Yh,map_cons→Yi
open Array renaming getElem?_toList→Gq,getD_eq_getD_getElem?→Gt,getElem?_eq_some_iff→Gz,ext'→G8,range→Ha,getElem?_append_left→He,size_append→Se
open Ne renaming symm→Sd
namespace Go.Abs
section
variable {P:Program}{C C0:aM}{ω:Nat→Option Loc}{w w0:World}{hp:qi}{env:Env}{a:Act}{o:Oper}{tmps:Array Value}{d:Loc}
theorem aq.strip {B}(e:aq C ω w B env tmps)(s:Option Nat):aq C ω w B (yb env s) tmps:=by
 cases s with
 |none=>exact e
 |some s=>
  simp only[yb]
  split
  ·rename_i v o hl
   intro t x hx
   simp only[ji]at hx
   cases hb:G7 s t with
   |false=>rw[hb]at hx;simp at hx;exact e t x hx
   |true=>
    rw[hb]at hx
    simp at hx
    subst hx
    obtain rfl:=Ge hb
    obtain⟨u,h1,h2,_⟩:=e s _ hl
    exact⟨u,h1,h2,by simp⟩
  ·exact e
theorem q50 (m:az P C ω w0 C0 hp w)(e:aq C ω w w0.heap.size env tmps){x v}(h:bR C x v):zk P C0 w0 C tmps d env ⟨x,Gb,Ga,hp⟩ v w:=
 ⟨C,ω,aM.le_refl C,m,e,h,by simp⟩
theorem KD (m:az P C ω w0 C0 hp w)(e:aq C ω w w0.heap.size env tmps)(cells:Array Value)(t:TypeId)(xs:List AVal)(sz cap:Nat)(vs:List Value)(hr:aW C (xs.flatMap AVal.flat) vs)
  (hv:∀(j:Nat) v,vs[j]?=I v→cells[j]?=I v) (h1:∀v∈vs,v.oneCell'=Gd) (hs:∀x∈xs,x.flat.length=sz) (hcap:xs.length≤cap) (cG:cap*sz≤cells.size) (s:Option Nat):
  zk P C0 w0 C tmps d env ⟨.list Gb sz xs,Gd,s,hp⟩ (.slice (I ⟨w.heap.size,0,Ga⟩) xs.length cap) (w.alloc (.cells cells t)):=by
 have hn:∀o,C.K w.heap.size o=Ga:=m.jU _ (Gn _)
 have hx:Ext w (w.alloc (.cells cells t)):=Ext.alloc w _ (fun c t fr h=>by cases h;rfl)
 have m1:=(m.newRow cells t vs hv h1)
 have QS:∀ℓ x v,aO C ω w w0.heap.size ℓ x v→aO (C.put w.heap.size 0 vs) (cQ ω w.heap.size d) (w.alloc (.cells cells t)) w0.heap.size ℓ x v:=fun ℓ x v ho=>((ho.fresh (Gn _)).put vs (.inl (Gn _))).ext hx
 have hle:=aM.gH (C:=C) (off:=0) vs (fun o _=>hn o)
 have hcells:=aM.fo (C:=C) (off:=0) (fun o _=>hn o) hr
 have hl:vs.length=xs.length*sz:=by rw[hr.length,yn xs hs]
 refine⟨C.put w.heap.size 0 vs,cQ ω w.heap.size d,hle,?_,?_,?_,?_⟩
 ·exact { m1 with box:=fun b x r fp hb=>((m.box b x r fp hb).mono hle fun j y v ho=>(ho.fresh (Gn _)).put vs (.inl (Gn _))).ext hx }
 ·refine aq.strip ?_ s
  exact fun t x hx=>let ⟨v,h1,h2,h3⟩:=e t x hx; ⟨v,h1,aI.mono hle h2,fun h=>QS _ _ _ (h3 h)⟩
 ·exact .list _ _ _ _ _ hcap (bz.eZ hcells hs)
 ·intro _
  refine⟨by simp[cQ],.inl m.size,?_,rfl,rfl,⟨cells,t,by rw[wi,if_pos rfl],by simpa using cG,fa.sized hs⟩,?_⟩
  ·intro b hb
   have:=(m.lt b _ hb).1
   simp at this
  ·intro o ho
   simp only[aM.put]
   rw[if_neg (by simp at ho;omega)]
   exact hn o
theorem KE {zs:List Value}{sz}(hz:zs.length=sz)(hs:0<sz):∀(n:Nat),(List.range (n*sz)).map (fun i=>zs.toArray[i % zs.toArray.size]!)=(Gh n zs).flatten
 |0=>by simp
 |n+1=>by
  rw[T6,List.range_add,List.map_append,KE hz hs n,List.replicate_succ',List.flatten_append]
  congr 1
  simp only[List.map_map,R5,List.flatten_nil,List.append_nil]
  apply Sc
  intro j
  rw[Jr]
  by_cases hj:j<sz
  ·rw[List.getElem?_range hj]
   simp only[Option.map_some,Function.comp,R6,hz]
   rw[Nat.mul_add_mod_self_right,Nat.mod_eq_of_lt hj]
   rw[Gr (by omega),getElem!_pos _ _ (by simpa[hz]using hj)]
   simp
  ·rw[Lg (by simpa using hj),Lg (by omega)]
   rfl
theorem aW.replicate {zs vs}(h:aW C zs vs):∀n:Nat,aW C (Gh n zs).flatten (Gh n vs).flatten
 |0=>.nil
 |n+1=>by
  rw[Ix,Ix,R5,R5]
  exact aW.append h (aW.replicate h n)
def uW (sz:Nat)(zero:List AVal):AVal:=bif G7 sz 1 then zero.headD .undef else .agg zero
theorem QT {sz zero}(hz:zero.length=sz)(hs:∀z∈zero,z.isAgg=Gb):(uW sz zero).flat=zero:=by
 unfold uW
 cases hb:G7 sz 1 with
 |false=>rfl
 |true=>
  obtain rfl:=Ge hb
  obtain⟨z,rfl⟩:=List.length_eq_one_iff.1 hz
  exact qa5 (hs z (by simp))
theorem qlu {sz zero}(hz:zero.length=sz)(hs:∀z∈zero,z.isAgg=Gb)(n:Nat):(Gh n (uW sz zero)).flatMap AVal.flat=(Gh n zero).flatten:=by
 induction n with
 |zero=>rfl
 |succ n ih=>rw[Ix,Lh,QT hz hs,ih,Ix,R5]
theorem q0t {v x}(h:Ds v=I x):qk x=Gd∧v.oneCell'=Gd:=by
 unfold Ds at h
 split at h<;>first|cases h|skip
 all_goals exact⟨rfl,rfl⟩
theorem ql4:∀ {vs:List Value} {xs:List AVal},wh vs=I xs→(∀x∈xs,qk x=Gd)∧∀v∈vs,v.oneCell'=Gd
 | [],xs,h=>by simp[wh]at h;subst h;simp
 |v::vs,xs,h=>by
  simp only[wh]at h
  split at h
  ·rename_i x hx
   split at h
   ·rename_i ys mV
    cases h
    obtain⟨h1,h2⟩:=q0t hx
    obtain⟨h3,h4⟩:=ql4 mV
    exact⟨by simpa using⟨h1,h3⟩,by simpa using⟨h2,h4⟩⟩
   ·cases h
  ·cases h
theorem qme {x}(h:qk x=Gd):x.isAgg=Gb:=by cases x<;>simp[qk,AVal.isAgg]at *
theorem uX {t:TypeId}{z}(h:yw P t=I z):(∀x∈z,qk x=Gd)∧∃v,(∀w,(zeroValue t).run P w=.ok v w)∧aW C z v.cells.toList∧∀u∈v.cells.toList,u.oneCell'=Gd:=by
 unfold yw at h
 split at h
 ·rename_i i hi
  split at h
  ·rename_i v hv
   obtain⟨h1,h2⟩:=ql4 h
   exact⟨h1,v,fun w=>by simp[zeroValue,typeInfo,hi,hv],Ku C h,h2⟩
  ·cases h
 ·cases h
theorem QU {x v}(h:bR C x v)(hs:qk x=Gd):v.oneCell'=Gd:=by
 cases h<;>first|rfl|(simp[qk]at hs)
theorem Ax {xs}:∀ {vs:List Value},aW C xs vs→(∀x∈xs,qk x=Gd)→∀v∈vs,v.oneCell'=Gd:=by
 induction xs with
 |nil=>intro vs h _ v hv;cases h;cases hv
 |cons x xs ih=>
  intro vs h hs v hv
  cases h with
  |cons _ _ u us hx h=>
   rcases Yf.1 hv with rfl|hv
   ·exact QU hx (hs x (by simp))
   ·exact ih h (fun y hy=>hs y (by simp[hy])) v hv
theorem qz6:∀ (qs:List (Nat×List AVal)) (xs ys:List AVal),jT xs qs=I ys→(∀x∈xs,qk x=Gd)→(∀q∈qs,∀x∈q.2,qk x=Gd)→∀y∈ys,qk y=Gd
 | [],xs,ys,h,hx,_=>by simp[jT]at h;subst h;exact hx
 |(off,vs)::qs,xs,ys,h,hx,hq=>by
  simp only[jT]at h
  cases hb:Tp (off+vs.length) xs.length with
  |false=>simp[hb]at h
  |true=>
   simp only[hb,cond_true]at h
   refine qz6 qs _ ys h ?_ (fun q h=>hq q (by simp[h]))
   intro x h
   simp only[Jq]at h
   rcases h with(h|h)|h
   ·exact hx x (R7 h)
   ·exact hq (off,vs) (by simp) x h
   ·exact hx x (List.mem_of_mem_drop h)
theorem qjd {sz}:∀(ps:List (Nat×js)) (qs:List (Nat×AVal)),yg env sz ps=I qs→∀q∈qs,∀x∈q.2.flat,qk x=Gd
 | [],qs,h=>by simp[yg]at h;subst h;simp
 |(i,x)::ps,qs,h=>by
  simp only[yg]at h
  split at h
  ·rename_i v nY
   cases hb:(G7 v.flat.length sz&&v.flat.all qk)with
   |false=>simp[hb]at h
   |true=>
    simp only[hb,cond_true]at h
    simp only[Gy,Sf]at hb
    split at h
    ·rename_i r hr
     cases h
     intro q hq
     rcases Yf.1 hq with rfl|hq
     ·exact hb.2
     ·exact qjd ps r hr q hq
    ·cases h
  ·cases h
theorem qlv (e:aq C ω w w0.heap.size env a.tmps){t el:TypeId}{ps len sz z fU qs xs}
  (ho:o.op=.buildSlice t len ps) (ht:P.underlying t=I (.slice el)) (hn:jp P el=I sz) (hz:yw P el=I z) (hlen:sz*len≤65536) (h0:0<sz) (iq:z.length=sz)
  (mr:xV ps.toList=I fU) (hq:yg env sz fU=I qs) (hx:lx (Gh len (uW sz z)) qs=I xs):
  ∃ds,(execOp a.eval o).run P w=.ok (.value (.slice (I ⟨w.heap.size,0,Ga⟩) len len)) (w.alloc (.cells ds el))∧aW C (xs.flatMap AVal.flat) ds.toList∧(∀v∈ds.toList,v.oneCell'=Gd)∧(∀x∈xs,x.flat.length=sz)∧xs.length=len∧len*sz≤ds.size:=by
 obtain⟨qI,zv,lj,cS,lC⟩:=uX (C:=C) hz
 have x5:∀x∈z,x.isAgg=Gb:=fun x h=>qme (qI x h)
 have mX:zv.cells.toList.length=sz:=by rw[cS.length,iq]
 have jV:((Ha (len*sz)).map (fun i=>zv.cells[i % zv.cells.size]!)).toList=(Gh len zv.cells.toList).flatten:=by
  have:=KE mX h0 len
  simpa using this
 obtain⟨qL,hqs⟩:=qom e.cr ps.toList fU qs mr hq
 obtain⟨hf,mY,mW⟩:=qxw (sz:=sz) qs _ xs hx (by
  intro x h
  obtain⟨_,rfl⟩:=Jk.1 h
  rw[QT iq x5,iq]) hqs
 rw[qlu iq x5]at hf
 obtain⟨ds,hd,hdr⟩:=KC _ _ _ _ ((Ha (len*sz)).map (fun i=>zv.cells[i % zv.cells.size]!)) (by rw[jV];exact cS.replicate len) hf qL
 have jW:xs.length=len:=by simpa using mW
 have hsc:∀y∈xs.flatMap AVal.flat,qk y=Gd:=qz6 _ _ _ hf (by
  intro x h
  rw[Sh]at h
  obtain⟨l,h1,h2⟩:=h
  obtain⟨_,rfl⟩:=Jk.1 h1
  exact qI x h2) (by
  intro q KF x As
  obtain⟨p,jX,rfl⟩:=Si.1 KF
  exact qjd fU qs hq p jX x As)
 have Ay:ds.toList.length=len*sz:=by rw[hdr.length,yn xs mY,jW]
 refine⟨ds,?_,hdr,Ax hdr hsc,mY,jW,by simp at Ay;omega⟩
 ·have uV:(ps.map fun(x:Nat×Operand)=>(x.1,a.eval x.2)).toList=ps.toList.map fun x=>(x.1,a.eval x.2):=by simp
  have hle:¬(16777216<len*sz):=by rw[Nat.mul_comm];omega
  by_cases Fv:len=0
  ·subst Fv
   have hr:Ha 0=#[]:=rfl
   rw[Nat.zero_mul,hr,Array.map_empty]at hd
   simp only[execOp,ho,Instr.buildSlice,Sem.run_bind,run_underlying ht,Result.andThen_ok,ym hn,uV]
   simp[hr,hd,newRow]
  ·have bI:¬(len*sz=0):=by
    intro h
    rcases Tm.1 h with h|h<;>omega
   simp only[execOp,ho,Instr.buildSlice,Sem.run_bind,run_underlying ht,Result.andThen_ok,ym hn,uV]
   simp[hle,bI,lj,hd,newRow]
theorem qyp (m:az P C ω w0 C0 hp w)(e:aq C ω w w0.heap.size env a.tmps){t el:TypeId}{ps len sz z fU qs xs}
  (ho:o.op=.buildSlice t len ps) (ht:P.underlying t=I (.slice el)) (hn:jp P el=I sz) (hz:yw P el=I z) (hlen:sz*len≤65536) (h0:0<sz) (iq:z.length=sz)
  (mr:xV ps.toList=I fU) (hq:yg env sz fU=I qs) (hx:lx (Gh len (uW sz z)) qs=I xs):
  ∃v w',(execOp a.eval o).run P w=.ok (.value v) w'∧zk P C0 w0 C a.tmps d env ⟨.list Gb sz xs,Gd,Ga,hp⟩ v w':=by
 obtain⟨ds,bH,hdr,h1,mY,jW,cG⟩:=qlv (C:=C) (ω:=ω) (w:=w) (w0:=w0) e ho ht hn hz hlen h0 iq mr hq hx
 refine⟨_,_,bH,?_⟩
 have fe:=KD (d:=d) (tmps:=a.tmps) m e ds el xs sz len ds.toList hdr (by intro j v h;simpa using h) h1 mY (by omega) cG Ga
 rw[jW]at fe
 exact fe
theorem q6v (m:az P C ω w0 C0 hp w)(e:aq C ω w w0.heap.size env a.tmps){t el:TypeId}{x y:Operand}{x' y':js}{n sz b:Nat}{z}
  (ho:o.op=.makeSlice t x y) (ht:P.underlying t=I (.slice el)) (hn:jp P el=I sz) (hb:nS P el=I b) (hz:yw P el=I z) (h0:0<sz) (iq:z.length=sz)
  (h1:qv x=I x') (h2:qv y=I y') (e1:qh env x'=I (.int .i64 (n:Int))) (e2:qh env y'=I (.int .i64 (n:Int))) (hle:n≤1073741824) (jK:b≤4096):
  ∃v w',(execOp a.eval o).run P w=.ok (.value v) w'∧zk P C0 w0 C a.tmps d env ⟨.list Gb sz (Gh n (uW sz z)),Gd,Ga,hp⟩ v w':=by
 obtain⟨qI,zv,lj,cS,lC⟩:=uX (C:=C) hz
 have x5:∀x∈z,x.isAgg=Gb:=fun x h=>qme (qI x h)
 have mX:zv.cells.toList.length=sz:=by rw[cS.length,iq]
 have jV:((Ha (n*sz)).map (fun i=>zv.cells[i % zv.cells.size]!)).toList=(Gh n zv.cells.toList).flatten:=by
  have:=KE mX h0 n
  simpa using this
 have r1:=(qx e.cr h1 e1).bU
 have r2:=(qx e.cr h2 e2).bU
 have mY:∀x∈Gh n (uW sz z),x.flat.length=sz:=by
  intro x h
  obtain⟨_,rfl⟩:=Jk.1 h
  rw[QT iq x5,iq]
 have gh:aW C ((Gh n (uW sz z)).flatMap AVal.flat) ((Ha (n*sz)).map (fun i=>zv.cells[i % zv.cells.size]!)).toList:=by
  rw[qlu iq x5,jV];exact cS.replicate n
 obtain⟨i,hi,qM⟩:∃i,P.info? el=I i∧i.bytes=b:=by
  unfold nS at hb
  cases hi:P.info? el with
  |none=>simp[hi]at hb
  |some i=>exact⟨i,rfl,by simpa[hi]using hb⟩
 have kH:i.size=sz:=by
  unfold jp at hn
  rw[hi]at hn
  simpa using hn
 have qN:IntKind.i64.wrap (n:Int)=n:=by
  rw[←Ar];unfold qe
  have:qE .i64 (n:Int)=Gd:=by simp[qE];exact If hle (by decide)
  rw[this];rfl
 have Ap:b*n≤281474976710656:=If (Nz jK hle) (by decide)
 have fe:=KD (d:=d) (tmps:=a.tmps) m e ((Ha (n*sz)).map (fun i=>zv.cells[i % zv.cells.size]!)) el (Gh n (uW sz z)) sz n _ gh (by intro j v h;rw[Gq]at h;exact h) (by
   rw[jV]
   intro v hv
   rw[Sh]at hv
   obtain⟨l,q1,q2⟩:=hv
   obtain⟨_,rfl⟩:=Jk.1 q1
   exact lC v q2) mY (by simp) (by simp) Ga
 rw[List.length_replicate]at fe
 refine⟨_,_,?_,fe⟩
 have c1:¬((b:Int)*(n:Int) > 2^48):=by
  have h1:((b*n:Nat):Int)≤281474976710656:=Int.ofNat_le.2 Ap
  rw[Int.natCast_mul]at h1
  have h2:(2:Int)^48=281474976710656:=by decide
  rw[h2];omega
 have c2:¬((n:Int)<0):=by omega
 have hr:Ha 0=#[]:=rfl
 simp only[execOp,ho,Instr.makeSlice,Sem.run_bind,run_underlying ht,r1,r2,asInt,asIntOf,Sem.run_pure,Result.andThen_ok,typeInfo,run_program,hi,qM,qN,c2,c1,decide_false,Yg,Hb,if_false,Int.lt_irrefl,gt_iff_lt,run_askRoom,Int.toNat_natCast,ym hn,newRow]
 by_cases Au:n=0
 ·subst Au
  simp[hr]
 ·have bI:¬(n*sz=0):=by
   intro h
   rcases Tm.1 h with h|h<;>omega
  simp[bI,lj]
end
structure gI (w w':World)(r:Nat)(cs:Array Value):Prop where
 at_:∃t,w'.heap[r]?=I (.cells cs t (0,0))
 size:w'.heap.size=w.heap.size
 other:∀k,k≠r→w'.heap[k]?=w.heap[k]?
 os:w'.os=w.os
 output:w'.output=w.output
theorem Fw {w r old}{t:TypeId}(h:w.heap[r]?=I (.cells old t (0,0)))(cs:Array Value):gI w (w.setRow r cs) r cs:=
 ⟨⟨t,setRow_heap w r old cs t (0,0) h⟩,setRow_size w r cs,fun k hk=>setRow_other w r k cs hk,rfl,rfl⟩
section
variable {P:Program}{C C0:aM}{ω:Nat→Option Loc}{w w' w0:World}{hp:qi}{env:Env}{a:Act}{o:Oper}{tmps:Array Value}{d:Loc}
theorem aO.iN {B r cs ℓ x v}(hu:gI w w' r cs)(hr:ω r≠I ℓ)(ho:aO C ω w B ℓ x v):aO C ω w' B ℓ x v:=by
 unfold aO at *
 split at ho
 ·rename_i a len cap
  obtain⟨h1,h2,h3,h4,h8,⟨cells,elem,h5,h6⟩,h7⟩:=ho
  refine⟨h1,h2,h3,h4,h8,⟨cells,elem,?_,h6⟩,h7⟩
  rw[hu.other _ (fun h=>hr (h▸h1))]
  exact h5
 ·rename_i a
  obtain⟨h1,h2,h3,h4,h8,⟨cells,elem,h5,h6⟩,h7⟩:=ho
  refine⟨h1,h2,h3,h4,h8,⟨cells,elem,?_,h6⟩,h7⟩
  rw[hu.other _ (fun h=>hr (h▸h1))]
  exact h5
 ·trivial
theorem bG.iN {B b r r' cs x}(hu:gI w w' r cs)(bI:r'≠r)(hr:∀j,ω r≠I (.cell b j))(hb:bG P C ω w B b r' x):bG P C ω w' B b r' x:=by
 have hg:=hu.other r' bI
 cases x with
 |hole=>exact hb
 |cells eN=>
  obtain⟨vs,elem,h1,h2,h3⟩:=hb
  exact⟨vs,elem,by rw[hg];exact h1,h2,fun j c hc=>let ⟨v,a,q,b,d⟩:=h3 j c hc; ⟨v,a,q,b,fun e=>(d e).iN hu (hr j)⟩⟩
 |map es=>obtain⟨cg,clock,h1,h2⟩:=hb;exact⟨cg,clock,by rw[hg];exact h1,h2⟩
 |iter s pos=>show w'.heap[r']?=_;rw[hg];exact hb
 |loop l=>obtain⟨lp,h1,h2⟩:=hb;exact⟨lp,by rw[hg];exact h1,h2⟩
 |fX t e l=>obtain⟨p,v,h1,h2,h3,h4⟩:=hb;exact⟨p,v,by rw[hg];exact h1,h2,h3,h4.iN hu (hr 1)⟩
 |dead=>obtain⟨cs,t,h1⟩:=hb;exact⟨cs,t,by rw[hg];exact h1⟩
 |vec sz bL xs=>exact ew.imp (fun _ _ _ h=>h) (fun _ h=>h) (fun _ h _=>h) hg (fun q n cap k=>⟨hu.other q (fun hq=>hr 0 (hq▸k.1)),k.iN hu (hr 0)⟩) hb
theorem qvn (m:az P C ω w0 C0 hp w)(e:aq C ω w w0.heap.size env tmps){r q cells}{t:TypeId}{news s}(hω:ω r=I (.slot s))(hB:w0.heap.size≤r∨C.W r)(hβ:∀b,C.β b≠I r)
  (hg:w.heap[r]?=I (.cells cells t (0,0))) (cG:q+news.length≤cells.size) (hK:∀o,q≤o→C.K r o=Ga) (h1:∀v∈news,v.oneCell'=Gd):
  az P (C.put r q news) (cQ ω r d) w0 C0 hp (w.setRow r (cells.toList.take q++news++cells.toList.drop (q+news.length)).toArray) ∧
  aq (C.put r q news) (cQ ω r d) (w.setRow r (cells.toList.take q++news++cells.toList.drop (q+news.length)).toArray) w0.heap.size (yb env (I s)) tmps∧C.le (C.put r q news):=by
 have hu:=Fw hg (cells.toList.take q++news++cells.toList.drop (q+news.length)).toArray
 generalize QV:w.setRow r (cells.toList.take q++news++cells.toList.drop (q+news.length)).toArray=w' at hu
 have hle:=aM.gH (C:=C) (off:=q) news hK
 have c7:∀ℓ x v,ℓ≠.slot s→aO C ω w w0.heap.size ℓ x v→aO (C.put r q news) (cQ ω r d) w' w0.heap.size ℓ x v:=by
  intro ℓ x v hℓ ho
  have bI:ω r≠I ℓ:=by rw[hω];intro h;exact hℓ (I.inj h).symm
  have h2:aO (C.put r q news) ω w' w0.heap.size ℓ x v:=(ho.put news (.inr bI)).iN hu bI
  exact h2.other (.inl bI)
 refine⟨?_,?_,hle⟩
 ·have Fx:=hu.size
  refine { base:=m.base,know:=?_,dw:=?_,apart:=?_,inj:=m.inj,lt:=?_,size:=?_,frame:=?_,ft:=?_,os:=hu.os.trans m.os,output:=hu.output.trans m.output,fresh:=m.fresh,grown:=aM.le_trans m.grown hle,old:=?_,box:=?_,iF:=fun q hq=>by rw[hu.size];exact m.iF q hq }
  ·intro b p v hk
   simp only[aM.put]at hk
   split at hk
   ·rename_i hc
    obtain⟨rfl,h2,h3⟩:=hc
    obtain⟨t',Fy⟩:=hu.at_
    simp only[World.cell?,Fy]
    rw[Gs,Ig,Gm (by simp;omega),Gi (by simp;omega)]
    have:(Yh q cells.toList).length=q:=by simp;omega
    rw[this]
    simpa using hk
   ·by_cases hb:b=r
    ·subst hb
     have bw:p<q:=by
      rcases Nat.lt_or_ge p q with h|h
      ·exact h
      ·rw[hK p h]at hk;cases hk
     have hc:=m.know _ _ _ hk
     obtain⟨t',Fy⟩:=hu.at_
     simp only[World.cell?,hg]at hc
     simp only[World.cell?,Fy]
     simp only[Jp,Hb,if_false]at hc ⊢
     rw[Gs,Ig,Gi (by simp;omega),Hc bw,Gq]
     exact hc
    ·have hc:=m.know _ _ _ hk
     simp only[World.cell?]at hc ⊢
     rw[hu.other b hb]
     exact hc
  ·intro b p v hk
   simp only[aM.put]at hk
   split at hk
   ·exact h1 v (Hd hk)
   ·exact m.dw b p v hk
  ·intro b p o hb
   simp only[aM.put]
   rw[if_neg]
   ·exact m.apart b p o hb
   ·rintro ⟨rfl,_⟩;exact hβ b hb
  ·intro b p hb
   rw[Fx];exact m.lt b p hb
  ·rw[Fx];exact m.size
  ·intro k hk hn hw
   have iu:k≠r:=fun h=>by
    subst h
    rcases hB with h|h
    ·omega
    ·rw[m.grown.w]at h;exact hw h
   rw[hu.other k iu];exact m.frame k hk hn hw
  ·intro k hk
   have iu:k≠r:=fun h=>by
    subst h
    have:=m.ft k hk
    rw[hg]at this;cases this
   rw[hu.other k iu];exact m.ft k hk
  ·intro k o hk hw
   have iu:k≠r:=fun h=>by
    subst h
    rcases hB with h|h
    ·omega
    ·rw[m.grown.w]at h;exact hw h
   simp only[aM.put]
   rw[if_neg (by rintro ⟨h,_⟩;exact iu h)]
   exact m.old k o hk hw
  ·intro b x p hx hb
   have bI:p≠r:=fun h=>hβ b (h▸hb)
   have uY:=m.box b x p hx hb
   have ll:bG P C ω w' w0.heap.size b p x:=uY.iN hu bI (fun j=>by rw[hω];simp)
   refine ll.mono hle fun j y v ho=>?_
   have lE:ω r≠I (.cell b j):=by rw[hω];simp
   exact(ho.put news (.inr lE)).other (.inl lE)
 ·intro t x hx
  have hlk:∃v o,ji s env=I (v,o)∨ji s env=Ga:=by
   cases h:ji s env with
   |none=>exact⟨.undef,Gb,.inr rfl⟩
   |some x=>exact⟨x.1,x.2,.inl rfl⟩
  by_cases lF:t=s
  ·subst lF
   simp only[yb]at hx
   cases hl:ji t env with
   |none=>rw[hl]at hx;simp only[hl]at hx;cases hx
   |some y=>
    rw[hl]at hx
    simp only[ji,St,cond_true]at hx
    cases hx
    obtain⟨v,h2,h3,_⟩:=e t y hl
    exact⟨v,h2,aI.mono hle h3,by simp⟩
  ·have fp:ji t env=I x:=by
    simp only[yb]at hx
    cases hl:ji s env with
    |none=>rw[hl]at hx;exact hx
    |some y=>
     rw[hl]at hx
     simp only[ji]at hx
     have:G7 s t=Gb:=by
      cases hb:G7 s t with
      |false=>rfl
      |true=>exact absurd (Ge hb).symm lF
     rw[this]at hx
     exact hx
   obtain⟨v,h2,h3,h4⟩:=e t x fp
   exact⟨v,h2,aI.mono hle h3,fun h=>c7 _ _ _ (by simp[lF]) (h4 h)⟩
theorem QW {t tx ty e:TypeId}{i:TypeInfo}(ht:P.underlying t=I (.slice e))(hi:P.info? e=I i)(r off mZ Az:Nat)(x:Value)(n:Nat)(news:List Value)(hs:Src P i.size tx x n news w)(eJ:mZ+n≤Az)
  {cells} {te:TypeId} (hg:w.heap[r]?=I (.cells cells te (0,0))) (cG:off+mZ*i.size+news.length≤cells.size):
  (Builtin.append_ #[t,tx] ty #[.slice (I ⟨r,off,Ga⟩) mZ Az,x]).run P w =
   .ok (.slice (I ⟨r,off,Ga⟩) (mZ+n) Az) (w.setRow r (cells.toList.take (off+mZ*i.size)++news++cells.toList.drop (off+mZ*i.size+news.length)).toArray):=by
 have cq:=run_storeCells_at (P:=P) r (off+mZ*i.size) te news 0 cells w hg (by simpa using cG) hs.one
 simp only[Ue]at cq
 rcases hs.kind with⟨e',hk⟩|hk<;>simp[Builtin.append_,run_underlying ht,run_underlying hk,sizeOf,typeInfo,hi,hs.len,eJ,hs.cells,Addr.add_lit,cq]
theorem qlf {t tx ty e:TypeId}{i:TypeInfo}(ht:P.underlying t=I (.slice e))(hi:P.info? e=I i)(x:Value)(hs:Src P i.size tx x 0 [] w):
  (Builtin.append_ #[t,tx] ty #[.slice Ga 0 0,x]).run P w=.ok (.slice Ga 0 0) w:=by
 rcases hs.kind with⟨e',hk⟩|hk<;>simp[Builtin.append_,run_underlying ht,run_underlying hk,sizeOf,typeInfo,hi,hs.len,hs.cells]
theorem KG (m:az P C ω w0 C0 hp w){u:TypeId}{ut:TypeDesc}{sz vy ys v}(hu:P.underlying u=I ut)(jL:Ai ut=Gd)(h:zw sz vy=I ys)(hr:bR C vy v):
  ∃news,Src P sz u v ys.length news w∧aW C (ys.flatMap AVal.flat) news∧(∀y∈ys,y.flat.length=sz)∧∀x∈news,x.oneCell'=Gd:=by
 have hk:(∃e',P.underlying u=I (.slice e'))∨P.underlying u=I .string:=by
  cases ut<;>simp[Ai]at jL
  ·exact .inr hu
  ·exact .inl ⟨_,hu⟩
 cases vy with
 |list n sy n5=>
  simp only[zw]at h
  cases hb:(G7 sz sy||n5.isEmpty)with
  |false=>simp[hb]at h
  |true=>
   simp only[hb,cond_true,I.injEq]at h
   subst h
   rcases hr.dc with⟨rfl,rfl,rfl⟩|⟨rfl,r,q,cap,rfl,_,dp⟩|⟨rfl,rfl,ad,_,rfl⟩
   ·exact⟨[],⟨hk,fun _=>rfl,run_firstCells_none w sz 0 0 0,run_firstCells_none w.drew sz 0 0 0,by simp,by simp⟩,.nil,by simp,by simp⟩
   ·obtain⟨news,h1,h2⟩:=cz.vals dp.cells
    have h3:∀x∈news,x.oneCell'=Gd:=fun x hx=>by
     obtain⟨j,hj⟩:=R8 hx
     exact m.dw _ _ _ (h2 j x hj)
    have da:∀y∈n5,y.flat.length=sz:=by
     intro y hy
     rcases Bool.or_eq_true _ _▸hb with hb|hb
     ·rw[Ge hb];exact dp.sized y hy
     ·rw[List.isEmpty_iff.1 hb]at hy;cases hy
    have hl:news.length=n5.length*sz:=by rw[h1.length,yn n5 da]
    have hc:∀j u,news[j]?=I u→w.cell? ((⟨r,q,Ga⟩:Addr).add j)=I u:=fun j u hj=>by rw[add_lit];exact m.know _ _ _ (h2 j u hj)
    refine⟨news,⟨hk,fun _=>rfl,run_firstCells_some w sz _ _ _ _ news hl hc,run_firstCells_some w.drew sz _ _ _ _ news hl (by simpa using hc),hl,h3⟩,h1,da,h3⟩
   ·exact⟨[],⟨hk,fun _=>rfl,run_firstCells_some w sz _ _ _ _ [] (by simp) (by simp),run_firstCells_some w.drew sz _ _ _ _ [] (by simp) (by simp),by simp,by simp⟩,.nil,by simp,by simp⟩
 |str s=>
  simp only[zw]at h
  cases hb:G7 sz 1 with
  |false=>simp[hb]at h
  |true=>
   simp only[hb,cond_true,I.injEq]at h
   obtain rfl:=Ge hb
   subst h
   obtain rfl:=hr.cw
   have jY:∀l:List UInt8,(l.map fun(c:UInt8)=>AVal.int .u8 c.toNat).flatMap AVal.flat=l.map fun(c:UInt8)=>AVal.int .u8 c.toNat:=by
    intro l;induction l with
    |nil=>rfl
    |cons c l ih=>simp only[Yi,Lh,ih];rfl
   have gh:∀l:List UInt8,aW C (l.map fun(c:UInt8)=>AVal.int .u8 c.toNat) (l.map fun b=>Value.int .u8 b.toNat):=by
    intro l;induction l with
    |nil=>exact .nil
    |cons c l ih=>exact .cons _ _ _ _ (.int _ _) ih
   refine⟨byteCells ⟨⟨s⟩⟩,⟨hk,fun w'=>by simp[Builtin.lenOf];rfl,?_,?_,?_,?_⟩,?_,?_,?_⟩
   ·rw[Yb];exact firstCells_string (P:=P) ⟨⟨s⟩⟩ w
   ·rw[Yb];exact firstCells_string (P:=P) ⟨⟨s⟩⟩ w.drew
   ·simp[byteCells]
   ·intro u hu;obtain⟨_,_,rfl⟩:=Si.1 hu;rfl
   ·rw[jY];simpa[byteCells]using gh s
   ·intro y hy;obtain⟨_,_,rfl⟩:=Si.1 hy;rfl
   ·intro u hu;obtain⟨_,_,rfl⟩:=Si.1 hu;rfl
 |_=>simp[zw]at h
theorem Fz {x s}(h:zm env x=I s):x=.tmp s∧∃v,ji s env=I (v,Gd):=by
 unfold zm at h
 split at h
 ·split at h
  ·rename_i t v hl
   cases h
   exact⟨rfl,v,hl⟩
  ·cases h
 ·cases h
theorem q27 (e:aq C ω w w0.heap.size env a.tmps){x x' sz len cap xs ad}(h1:qv x=I x')(c7:(zm env x').isSome=Gd)(e1:qh env x'=I (.list Gb sz xs))(hx:a.eval x=.slice (I ad) len cap):ad.spot=Ga:=by
 obtain⟨s,hJ⟩:=Ry.1 c7
 obtain⟨fp,v0,hl⟩:=Fz hJ
 have gi:v0=.list Gb sz xs:=by
  subst fp
  simp only[qh,hl]at e1
  exact I.inj e1
 subst gi
 obtain⟨cv,x6,KH,AA⟩:=e s _ hl
 have oI:cv=.slice (I ad) len cap:=by
  have iO:qv x=I (.tmp s):=by rw[h1,fp]
  cases x with
  |tmp t'=>
   simp only[qv]at iO
   cases iO
   have:a.eval (.tmp s)=cv:=by simp[Act.eval,Gt,x6]
   rw[←this,hx]
  |const u=>simp only[qv]at iO;split at iO<;>cases iO
  |func f=>simp[qv]at iO
  |global g=>simp[qv]at iO
 subst oI
 exact(AA rfl).2.2.2.1
theorem jce (m:az P C ω w0 C0 hp w)(e:aq C ω w w0.heap.size env a.tmps){c}{t u el:TypeId}{ut:TypeDesc}{x y x' y' sz b n dl xs ys vy}
  (ho:o.op=.call c) (ek:c.callee=.builtin .append) (eC:c.args.toList=[x,y]) (eV:c.argTypes.toList=[t,u]) (ht:P.underlying t=I (.slice el)) (hu:P.underlying u=I ut) (jL:Ai ut=Gd)
  (hn:jp P el=I sz) (hb:nS P el=I b) (h1:qv x=I x') (h2:qv y=I y') (e1:qh env x'=I (.list n dl xs)) (e2:qh env y'=I vy) (cX:zw sz vy=I ys)
  (c7:n=Gd∨(zm env x').isSome=Gd) (AB:sz=dl∨(xs=[]∧n=Gd)) (hlen:xs.length+ys.length≤1073741824) (jK:b≤4096) (hzero:∃z,yw P el=I z∧z.length=sz):
  ∃v w',(execOp a.eval o).run P w=.ok (.value v) w'∧zk P C0 w0 C a.tmps d env ⟨qF n sz xs ys,Gd,zm env x',hp⟩ v w':=by
 have ha:c.args=#[x,y]:=by apply G8;simpa using eC
 have lB:c.argTypes=#[t,u]:=by apply G8;simpa using eV
 obtain⟨i,hi,qM⟩:∃i,P.info? el=I i∧i.bytes=b:=by
  unfold nS at hb
  cases hi:P.info? el with
  |none=>simp[hi]at hb
  |some i=>exact⟨i,rfl,by simpa[hi]using hb⟩
 have kH:i.size=sz:=by
  unfold jp at hn;rw[hi]at hn;simpa using hn
 obtain⟨z,hz,AE⟩:=hzero
 obtain⟨zv,nc⟩:∃zv,i.zero=I zv:=by
  unfold yw at hz;rw[hi]at hz
  cases hq:i.zero with
  |none=>simp[hq]at hz
  |some v=>exact⟨v,rfl⟩
 have rx:=qx e.cr h1 e1
 have ry:=qx e.cr h2 e2
 obtain⟨news,hs,de,fO,df⟩:=KG m hu jL cX ry
 have fg:∀ {z:Value} {w':World},(Builtin.append_ #[t,u] o.type #[a.eval x,a.eval y]).run P w=.ok z w'→(execOp a.eval o).run P w=.ok (.value z) w':=by
  intro z w' h
  simp[execOp,ho,resolve,ek,ha,lB,invoke,builtin,h]
 have nf:news.length=ys.length*sz:=by rw[de.length,yn ys fO]
 -- a new row
 have grow:∀(base:Option Addr) (cap:Nat) (eP:List Value),a.eval x=.slice base xs.length cap→cap<xs.length+ys.length→(∀(w':World),w'=w.drew→(Builtin.firstCells i.size xs.length (.slice base xs.length cap)).run P w'=.ok eP.toArray w') →
   aW C (xs.flatMap AVal.flat) eP→(∀v∈eP,v.oneCell'=Gd)→(∀x∈xs,x.flat.length=sz) →
   ∃v w',(execOp a.eval o).run P w=.ok (.value v) w'∧zk P C0 w0 C a.tmps d env ⟨.list Gb sz (xs++ys),Gd,zm env x',hp⟩ v w':=by
  intro base cap eP qO hcap hold x9 FA oJ
  have cG:Builtin.nextslicecap (xs.length+ys.length) cap*i.bytes≤281474976710656:=growslice_fits hcap (by
   rw[qM]
   exact If (Nz hlen jK) (by decide))
  have bH:=run_append_grow_src w t u o.type el i zv ht hi nc base xs.length cap eP (hold _ rfl) (a.eval y) ys.length news (kH▸hs) hcap (by omega) cG
  rw[←qO]at bH
  refine⟨_,_,fg bH,?_⟩
  have hx:Ext w w.drew:=Ext.drew w
  have uZ:=grownCap_ge w (xs.length+ys.length) cap el
  have iq:zv.cells.size=sz:=by
   obtain⟨_,zv',lC,FB,_⟩:=uX (C:=C) hz
   have:=lC w
   simp[zeroValue,typeInfo,hi,nc]at this
   subst this
   have:=FB.length
   simp at this
   omega
  have fe:=KD (d:=d) (tmps:=a.tmps) (m.ext hx) (e.ext hx) ((eP++news).toArray++Builtin.zeroCells zv.cells (grownCap w (xs.length+ys.length) cap el-(xs.length+ys.length))) el (xs++ys) sz (grownCap w (xs.length+ys.length) cap el) (eP++news)
   (by rw[T3];exact aW.append x9 de) (by
    intro j v hj
    rw[He (by simpa using(Gj.1 hj).1)]
    simpa using hj) (by
    intro v hv
    rcases Jq.1 hv with hv|hv
    ·exact FA v hv
    ·exact df v hv) (by
    intro x hx
    rcases Jq.1 hx with hx|hx
    ·exact oJ x hx
    ·exact fO x hx) (by rw[Rz];exact uZ) (by
    have ho:=x9.length
    rw[yn xs oJ]at ho
    simp[Builtin.zeroCells,iq,ho,nf]
    rw[←Me,←Me]
    exact Gx _ (by omega)) (zm env x')
  rw[Rz]at fe
  exact fe
 rcases rx.dc with⟨rfl,rfl,hx⟩|⟨rfl,r,q,cap,hx,hle,dp⟩|⟨rfl,rfl,ad,mg,hx⟩
 rotate_right
 ·exact absurd (q27 e h1 (by rcases c7 with h|h<;>first|cases h|exact h) e1 hx) mg
 ·-- nil
  cases ys with
  |nil=>
   have:news=[]:=by cases de;rfl
   subst this
   refine⟨.slice Ga 0 0,w,fg ?_,C,ω,aM.le_refl C,m,e.strip _,by simpa[qF]using aI.jI 0,fun _=>trivial⟩
   rw[hx]
   exact qlf ht hi _ (kH▸hs)
  |cons y1 ys1=>
   have:=grow Ga 0 [] hx (by simp) (fun w' _=>run_firstCells_none w' _ _ _ _) .nil (by simp) (by simp)
   simpa[qF]using this
 ·-- own
  rw[show qF Gb sz xs ys=.list Gb sz (xs++ys)from rfl]
  have FC:(zm env x').isSome=Gd:=by rcases c7 with h|h<;>first|cases h|exact h
  obtain⟨s,hJ⟩:=Ry.1 FC
  obtain⟨fp,v0,hl⟩:=Fz hJ
  obtain rfl:sz=dl:=by rcases AB with h|⟨_,h⟩<;>first|exact h|cases h
  have gi:v0=.list Gb sz xs:=by
   subst fp
   simp only[qh,hl]at e1
   exact I.inj e1
  subst gi
  obtain⟨cv,x6,KH,AA⟩:=e s _ hl
  have oI:cv=.slice (I ⟨r,q,Ga⟩) xs.length cap:=by
   have iO:qv x=I (.tmp s):=by rw[h1,fp]
   cases x with
   |tmp t'=>
    simp only[qv]at iO
    cases iO
    have:a.eval (.tmp s)=cv:=by simp[Act.eval,Gt,x6]
    rw[←this,hx]
   |const u=>simp only[qv]at iO;split at iO<;>cases iO
   |func f=>simp[qv]at iO
   |global g=>simp[qv]at iO
  subst oI
  obtain⟨hω,hB,hβ,_,KI,⟨cells,te,hg,cG,_⟩,hK⟩:=AA rfl
  simp only at hω hB hβ hg cG hK
  obtain⟨eP,FD,ho2⟩:=cz.vals dp.cells
  have oJ:=dp.sized
  by_cases eJ:xs.length+ys.length≤cap
  ·-- there is room
   have gJ:(xs.length+ys.length)*sz≤cap*sz:=Gx _ eJ
   rw[Me]at gJ
   have bH:=QW (P:=P) (w:=w) (ty:=o.type) ht hi r q xs.length cap (a.eval y) ys.length news (kH▸hs) eJ hg (by rw[kH,nf];omega)
   rw[←hx]at bH
   obtain⟨m',e',cY⟩:=qvn (d:=d) (tmps:=a.tmps) m e (r:=r) (q:=q+xs.length*sz) (news:=news) hω hB hβ hg (by rw[nf];omega) hK df
   rw[kH]at bH
   rw[hJ]
   refine⟨_,_,fg bH,_,_,cY,m',e',?_,?_⟩
   ·have qP:bz (C.put r (q+xs.length*sz) news) r sz (xs++ys) q:=bz.append (aI.mono cY dp) (bz.eZ (aM.fo hK de) fO)
    have:=aI.list sz (xs++ys) r q cap (by simpa using eJ) qP
    simpa using this
   ·intro _
    have hall:∀x∈xs++ys,x.flat.length=sz:=fun x hx=>by
     rcases Jq.1 hx with hx|hx
     ·exact oJ x hx
     ·exact fO x hx
    refine⟨by simp[cQ],hB,hβ,rfl,KI,⟨_,te,setRow_heap w r cells _ te (0,0) hg,?_,fa.sized hall⟩,?_⟩
    ·simp;omega
    ·intro p hp
     rw[Me]at hp
     simp only[aM.put]
     simp only at hp
     rw[if_neg (by rw[nf];omega)]
     exact hK p (by omega)
  ·-- there is none
   have gf:∀v∈eP,v.oneCell'=Gd:=fun v hv=>by
    obtain⟨j,hj⟩:=R8 hv
    exact m.dw _ _ _ (ho2 j v hj)
   have QX:eP.length=xs.length*i.size:=by rw[FD.length,yn xs oJ,kH]
   have:=grow (I ⟨r,q,Ga⟩) cap eP hx (by omega) (fun w' QV=>run_firstCells_some w' _ _ _ _ _ eP QX (fun j v hj=>by
    subst QV
    rw[add_lit]
    have:=m.know _ _ _ (ho2 j v hj)
    simpa using this)) FD gf oJ
   simpa using this
end
structure ng (w w':World)(r:Nat):Prop where
 size:w'.heap.size=w.heap.size
 other:∀k,k≠r→w'.heap[k]?=w.heap[k]?
 fz:∀c t fr,w'.heap[r]?=I (.cells c t fr)→fr=(0,0)
 os:w'.os=w.os
 output:w'.output=w.output
theorem gI.iN {w w' r cs}(h:gI w w' r cs):ng w w' r:=
 ⟨h.size,h.other,fun c t fr hc=>by obtain⟨t',ht⟩:=h.at_;rw[ht]at hc;cases hc;rfl,h.os,h.output⟩
section
variable {P:Program}{C C0:aM}{ω:Nat→Option Loc}{w w' w0:World}{hp:qi}{env:Env}{a:Act}{o:Oper}{tmps:Array Value}{d:Loc}
theorem aO.dP {B b r ℓ x v}(hu:ng w w' r)(hb:C.β b=I r)(ho:aO C ω w B ℓ x v):aO C ω w' B ℓ x v:=by
 unfold aO at *
 split at ho
 ·obtain⟨h1,h2,h3,h4,h8,⟨cells,elem,h5,h6⟩,h7⟩:=ho
  refine⟨h1,h2,h3,h4,h8,⟨cells,elem,?_,h6⟩,h7⟩
  rw[hu.other _ (fun h=>h3 b (by rw[h];exact hb))]
  exact h5
 ·obtain⟨h1,h2,h3,h4,h8,⟨cells,elem,h5,h6⟩,h7⟩:=ho
  refine⟨h1,h2,h3,h4,h8,⟨cells,elem,?_,h6⟩,h7⟩
  rw[hu.other _ (fun h=>h3 b (by rw[h];exact hb))]
  exact h5
 ·trivial
theorem aq.dP {B b r}(hu:ng w w' r)(hb:C.β b=I r)(e:aq C ω w B env tmps):aq C ω w' B env tmps:=
 fun s x hx=>let ⟨v,h1,h2,h3⟩:=e s x hx; ⟨v,h1,h2,fun h=>(h3 h).dP hu hb⟩
theorem bG.dP {B b b' r r' x}(hu:ng w w' r)(hb:C.β b=I r)(bI:r'≠r)(h:bG P C ω w B b' r' x):bG P C ω w' B b' r' x:=by
 have hg:=hu.other r' bI
 cases x with
 |hole=>exact h
 |cells eN=>
  obtain⟨vs,elem,h1,h2,h3⟩:=h
  exact⟨vs,elem,by rw[hg];exact h1,h2,fun j c hc=>let ⟨v,a,q,b,d⟩:=h3 j c hc; ⟨v,a,q,b,fun e=>(d e).dP hu hb⟩⟩
 |map es=>obtain⟨cg,clock,h1,h2⟩:=h;exact⟨cg,clock,by rw[hg];exact h1,h2⟩
 |iter s pos=>show w'.heap[r']?=_;rw[hg];exact h
 |loop l=>obtain⟨lp,h1,h2⟩:=h;exact⟨lp,by rw[hg];exact h1,h2⟩
 |fX t e l=>obtain⟨p,v,h1,h2,h3,h4⟩:=h;exact⟨p,v,by rw[hg];exact h1,h2,h3,h4.dP hu hb⟩
 |dead=>obtain⟨cs,t,h1⟩:=h;exact⟨cs,t,by rw[hg];exact h1⟩
 |vec sz bL xs=>exact ew.imp (fun _ _ _ h=>h) (fun _ h=>h) (fun _ h _=>h) hg (fun q n cap k=>⟨hu.other q (fun hq=>k.2.2.1 b (by rw[hb];exact congrArg I hq.symm)),k.dP hu hb⟩) h
theorem az.ec {ω'}(m:az P C ω w0 C0 hp w){b r}(hu:ng w w' r)(hb:C.β b=I r)(x':bh)(hω:∀b' j y v,b'≠b→aO C ω w w0.heap.size (.cell b' j) y v→aO C ω' w w0.heap.size (.cell b' j) y v)
  (gK:bG P C ω' w' w0.heap.size b r x'):az P C ω' w0 C0 (hp.set b x') w':=by
 have hfr:=m.fresh b r hb
 have qQ:w.heap[r]?≠I (.deferred (I [])):=by
  obtain⟨x,hx⟩:=Gr (m.lt b r hb).2▸(⟨_,rfl⟩:∃x,I (hp[b]'(m.lt b r hb).2)=I x)
  have h0:=m.box b x r hx hb
  intro h
  cases x with
  |hole=>exact h0
  |cells cs=>obtain⟨vs,elem,h1,_⟩:=h0;rw[h]at h1;cases h1
  |map es=>obtain⟨cg,clock,h1,_⟩:=h0;rw[h]at h1;cases h1
  |iter s pos=>have h1:w.heap[r]?=_:=h0;rw[h]at h1;cases h1
  |loop l=>obtain⟨lp,h1,_⟩:=h0;rw[h]at h1;cases h1
  |fX t e l=>obtain⟨p,v,h1,_⟩:=h0;rw[h]at h1;cases h1
  |dead=>obtain⟨cs,t,h1⟩:=h0;rw[h]at h1;cases h1
  |vec sz bL xs=>obtain⟨_,_,_,_,_,_,cs,t,h1⟩:=h0;rw[h]at h1;cases h1
 refine { base:=m.base,know:=?_,dw:=m.dw,apart:=m.apart,inj:=m.inj,lt:=?_,size:=?_,frame:=?_,ft:=?_,os:=hu.os.trans m.os,output:=hu.output.trans m.output,fresh:=m.fresh,grown:=m.grown,old:=m.old,box:=?_,iF:=fun q hq=>by rw[hu.size];exact m.iF q hq }
 ·intro k p v hk
  have bI:k≠r:=fun h=>by rw[h,m.apart b r p hb]at hk;cases hk
  have hc:=m.know _ _ _ hk
  simp only[World.cell?]at hc ⊢
  rw[hu.other k bI]
  exact hc
 ·intro k p hk
  rw[hu.size,Qw];exact m.lt k p hk
 ·rw[hu.size];exact m.size
 ·intro k hk hn hw
  by_cases iu:k=r
  ·subst iu
   rcases hfr with h|h|h
   ·exact absurd h (hn b)
   ·omega
   ·exact absurd h hw
  ·rw[hu.other k iu];exact m.frame k hk hn hw
 ·intro k hk
  have iu:k≠r:=fun h=>qQ (h▸m.ft k hk)
  rw[hu.other k iu];exact m.ft k hk
 ·intro k x p hx hk
  by_cases kI:k=b
  ·subst kI
   rw[hb]at hk
   cases hk
   rw[G9 (m.lt k _ hb).2]at hx
   cases hx
   exact gK
  ·rw[Ik (Sd kI)]at hx
   have qL:p≠r:=fun h=>kI (m.inj k b p hk (h▸hb))
   have h0:=m.box k x p hx hk
   exact((h0.dP hu hb qL).mono (ω':=ω') (aM.le_refl C) (fun j y v ho=>by
    have:=hω k j y v kI
    -- the ownerships of other boxes,in the new world
    unfold aO at ho this ⊢
    split at ho
    ·obtain⟨h1,h2,h3,h4,h8,⟨cells,elem,h5,h6⟩,h7⟩:=ho
     rename_i ad len cap
     have lE:ad.block≠r:=fun h=>h3 b (h▸hb)
     rw[hu.other _ lE]at h5
     obtain⟨k1,_⟩:=this ⟨h1,h2,h3,h4,h8,⟨cells,elem,h5,h6⟩,h7⟩
     exact⟨k1,h2,h3,h4,h8,⟨cells,elem,by rw[hu.other _ lE];exact h5,h6⟩,h7⟩
    ·obtain⟨h1,h2,h3,h4,h8,⟨cells,elem,h5,h6⟩,h7⟩:=ho
     rename_i ad
     have lE:ad.block≠r:=fun h=>h3 b (h▸hb)
     rw[hu.other _ lE]at h5
     obtain⟨k1,_⟩:=this ⟨h1,h2,h3,h4,h8,⟨cells,elem,h5,h6⟩,h7⟩
     exact⟨k1,h2,h3,h4,h8,⟨cells,elem,by rw[hu.other _ lE];exact h5,h6⟩,h7⟩
    ·trivial))
theorem bG.read {B b r off n cs us}(h:bG P C ω w B b r (.cells cs))(hl:zi cs off n=I us):
  ∃vs,aW C us vs∧us.length=n∧vs.length=n∧(∀j v,vs[j]?=I v→w.cell? ⟨r,off+j,Ga⟩=I v)∧∀v∈vs,v.oneCell'=Gd:=by
 unfold zi at hl
 cases hb:Tp (off+n) cs.length with
 |false=>simp[hb]at hl
 |true=>
  simp only[hb,cond_true,I.injEq]at hl
  subst hl
  have hle:=Ny hb
  obtain⟨vs,elem,h1,h2,h3⟩:=h
  have key:∀(n off:Nat),off+n≤cs.length→∃ws:List Value,aW C (((cs.drop off).take n).map (·.1)) ws∧ws.length=n∧∀j v,ws[j]?=I v→vs[off+j]?=I v∧v.oneCell'=Gd:=by
   intro n
   induction n with
   |zero=>intro off _;exact⟨[],by simpa using aI.nil,rfl,by simp⟩
   |succ n ih=>
    intro off hle
    obtain⟨ws,i1,i2,i3⟩:=ih (off+1) (by omega)
    have bw:off<cs.length:=by omega
    obtain⟨v,j1,j2,j3,_⟩:=h3 off cs[off] (Gr bw)
    refine⟨v::ws,?_,by simp[i2],?_⟩
    ·rw[List.drop_eq_getElem_cons bw]
     exact .cons _ _ _ _ j3 i1
    ·intro j u hj
     cases j with
     |zero=>simp at hj;subst hj;exact⟨j1,j2⟩
     |succ j=>simp at hj;rw[show off+(j+1)=off+1+j from by omega];exact i3 j u hj
  obtain⟨ws,k1,k2,k3⟩:=key n off hle
  refine⟨ws,k1,by simp;omega,k2,?_,?_⟩
  ·intro j v hj
   have:=(k3 j v hj).1
   simp[World.cell?,h1,this]
  ·intro v hv
   obtain⟨j,hj⟩:=R8 hv
   exact(k3 j v hj).2
theorem FE {t:TypeId}{n r off vs}(hg:yr P t=I Gd)(hn:jp P t=I n)(hl:vs.length=n)(hc:∀j v,vs[j]?=I v→w.cell? ⟨r,off+j,Ga⟩=I v):
  (loadVar t ⟨r,off,Ga⟩).run P w=.ok (.agg ⟨vs⟩) w:=by
 have:=run_loadCells_list (P:=P) w ⟨r,off,Ga⟩ vs (fun j v hj=>by rw[add_lit];exact hc j v hj)
 rw[hl]at this
 simp[loadVar,DB hg,ym hn,this]
theorem FF {t:TypeId}{r off v}(hg:yr P t=I Gb)(hc:w.cell? ⟨r,off,Ga⟩=I v):(loadVar t ⟨r,off,Ga⟩).run P w=.ok v w:=by
 simp[loadVar,DB hg,hc]
theorem QY (m:az P C ω w0 C0 hp w)(he:br C env a.tmps){t:TypeId}{x x' n ag p v}(ho:o.op=.load t x)(hg:yr P t=I ag)(hn:jp P t=I n)(FG:ag=Gb→n=1)(h1:qv x=I x')(e1:qh env x'=I p)
  (hv:(∃b q cs us,p=.ptr b q∧ju hp b=I cs∧zi cs q n=I us∧((ag=Gd∧v=.agg us)∨(ag=Gb∧us=[v])))∨(p=.ai v∧Bool.xor ag v.isAgg=Gb∧v.flat.length=n)):Val P C a o w v:=by
 rcases hv with⟨b,q,cs,us,rfl,lm,hl,hv⟩|⟨rfl,hx,wm⟩
 ·obtain⟨r,hr,hq⟩:=(qx he h1 e1).dz
  have gL:hp[b]?=I (.cells cs):=by
   unfold ju at lm
   split at lm
   ·rename_i eN h;cases lm;exact h
   ·cases lm
  obtain⟨vs,k1,_,k2,k3,_⟩:=(m.box b _ r gL hr).read hl
  rcases hv with⟨rfl,rfl⟩|⟨rfl,rfl⟩
  ·exact⟨.agg ⟨vs⟩,by simp[execOp,ho,Instr.loadAt,hq,Instr.sureAddr,FE hg hn k2 k3],.agg _ _ k1⟩
  ·cases k1 with
   |cons _ _ u us hu kG=>
    cases kG
    refine⟨u,?_,hu⟩
    have:=FF (P:=P) hg (by simpa using k3 0 u rfl)
    simp[execOp,ho,Instr.loadAt,hq,Instr.sureAddr,this]
 ·obtain⟨r,q,hq,hc⟩:=(qx he h1 e1).fb
  obtain⟨vs,k1,k2⟩:=cz.vals hc
  have hl:vs.length=n:=by rw[k1.length,wm]
  have k3:∀j u,vs[j]?=I u→w.cell? ⟨r,q+j,Ga⟩=I u:=fun j u hj=>m.know _ _ _ (k2 j u hj)
  cases ag with
  |true=>
   cases v<;>simp[AVal.isAgg]at hx
   exact⟨.agg ⟨vs⟩,by simp[execOp,ho,Instr.loadAt,hq,Instr.sureAddr,FE hg hn hl k3],.agg _ _ k1⟩
  |false=>
   rw[qa5 (by simpa using hx)]at k1
   cases k1 with
   |cons _ _ u us hu kG=>
    cases kG
    refine⟨u,?_,hu⟩
    have:=FF (P:=P) hg (by simpa using k3 0 u rfl)
    simp[execOp,ho,Instr.loadAt,hq,Instr.sureAddr,this]
def aM.box (C:aM)(b r:Nat):aM:={ C with β:=fun k=>if k=b then I r else C.β k }
theorem aM.kJ {b r}(h:C.β b=Ga):C.le (C.box b r):=
 ⟨fun _ _ _ h=>h,fun k p hk=>by
  simp only[aM.box]
  rw[if_neg (fun hb=>by rw[hb,h]at hk;cases hk)]
  exact hk,rfl,fun _ h=>h,fun _ h=>h⟩
theorem aO.box {B b r ℓ x v}(hr:w.heap.size≤r∨ω r≠I ℓ)(ho:aO C ω w B ℓ x v):aO (C.box b r) ω w B ℓ x v:=by
 unfold aO at *
 split at ho
 ·rename_i ad len cap
  obtain⟨h1,h2,h3,h4,h8,⟨cells,elem,h5,h6⟩,h7⟩:=ho
  have bw:ad.block<w.heap.size:=(Gz.1 h5).1
  refine⟨h1,h2,fun k hk=>?_,h4,h8,⟨cells,elem,h5,h6⟩,h7⟩
  simp only[aM.box]at hk
  split at hk
  ·have iI:r=ad.block:=I.inj hk
   rcases hr with hr|hr
   ·omega
   ·exact hr (iI▸h1)
  ·exact h3 k hk
 ·rename_i ad
  obtain⟨h1,h2,h3,h4,h8,⟨cells,elem,h5,h6⟩,h7⟩:=ho
  have bw:ad.block<w.heap.size:=(Gz.1 h5).1
  refine⟨h1,h2,fun k hk=>?_,h4,h8,⟨cells,elem,h5,h6⟩,h7⟩
  simp only[aM.box]at hk
  split at hk
  ·have iI:r=ad.block:=I.inj hk
   rcases hr with hr|hr
   ·omega
   ·exact hr (iI▸h1)
  ·exact h3 k hk
 ·trivial
theorem y6 {h0 rk x h'}(h:aS h0 hp rk x=I h'):hp[h0+rk]?=I .hole∧h'=hp.set (h0+rk) x:=by
 unfold aS at h
 split at h
 ·rename_i hh;cases h;exact⟨hh,rfl⟩
 ·cases h
theorem FH (m:az P C ω w0 C0 hp w){b}(h:hp[b]?=I .hole):C.β b=Ga:=by
 cases hb:C.β b with
 |none=>rfl
 |some r=>exact(m.box b .hole r h hb).elim
theorem az.aS (m:az P C ω w0 C0 hp w)(e:aq C ω w w0.heap.size env tmps){b}(hh:hp[b]?=I .hole)(obj:Obj)(QZ:∀c t fr,obj=.cells c t fr→fr=(0,0))(x:bh)
  (gK:∀C' ω' w',C.le C'→w'.heap[w.heap.size]?=I obj→bG P C' ω' w' w0.heap.size b w.heap.size x):
  az P (C.box b w.heap.size) ω w0 C0 (hp.set b x) (w.alloc obj)∧aq (C.box b w.heap.size) ω (w.alloc obj) w0.heap.size env tmps∧C.le (C.box b w.heap.size):=by
 have hx:Ext w (w.alloc obj):=Ext.alloc w obj QZ
 have hβ:=FH m hh
 have hle:=aM.kJ (C:=C) (r:=w.heap.size) hβ
 have m':=m.ext hx
 have bw:b<hp.length:=(Gj.1 hh).1
 refine⟨{ m' with apart:=?_,inj:=?_,lt:=?_,fresh:=?_,grown:=aM.le_trans m.grown hle,box:=?_ },?_,hle⟩
 ·intro k r q hk
  simp only[aM.box]at hk
  split at hk
  ·cases hk;exact m.jU _ (Gn _) q
  ·exact m.apart k r q hk
 ·intro k k' r hk eW
  simp only[aM.box]at hk eW
  split at hk<;>split at eW
  ·rename_i h1 h2;rw[h1,h2]
  ·cases hk;have:=(m.lt k' _ eW).1;omega
  ·cases eW;have:=(m.lt k _ hk).1;omega
  ·exact m.inj k k' r hk eW
 ·intro k r hk
  rw[Qw]
  simp only[aM.box]at hk
  split at hk
  ·rename_i h1;cases hk;subst h1;exact⟨by rw[World.size_alloc];omega,bw⟩
  ·have:=m.lt k r hk;exact⟨by rw[World.size_alloc];omega,this.2⟩
 ·intro k r hk
  simp only[aM.box]at hk
  split at hk
  ·cases hk;exact .inr (.inl m.size)
  ·exact m.fresh k r hk
 ·intro k y r hy hk
  simp only[aM.box]at hk
  split at hk
  ·rename_i h1
   subst h1
   cases hk
   rw[G9 bw]at hy
   cases hy
   exact gK _ _ _ hle (by rw[wi,if_pos rfl])
  ·rename_i h1
   rw[Ik (Sd h1)]at hy
   exact((m.box k y r hy hk).mono (ω':=ω) hle fun j z v ho=>ho.box (.inl (Gn _))).ext hx
 ·exact fun s y hy=>let ⟨v,h1,h2,h3⟩:=e s y hy; ⟨v,h1,aI.mono hle h2,fun h=>((h3 h).box (.inl (Gn _))).ext hx⟩
theorem aO.FI {B b r ℓ x v}(hr:∀cs t fr,w.heap[r]?≠I (.cells cs t fr))(ho:aO C ω w B ℓ x v):aO (C.box b r) ω w B ℓ x v:=by
 unfold aO at *
 split at ho
 ·rename_i ad len cap
  obtain⟨h1,h2,h3,h4,h8,⟨cells,elem,h5,h6⟩,h7⟩:=ho
  refine⟨h1,h2,fun k hk=>?_,h4,h8,⟨cells,elem,h5,h6⟩,h7⟩
  simp only[aM.box]at hk
  split at hk
  ·have iI:r=ad.block:=I.inj hk
   exact absurd (iI▸h5) (hr _ _ _)
  ·exact h3 k hk
 ·rename_i ad
  obtain⟨h1,h2,h3,h4,h8,⟨cells,elem,h5,h6⟩,h7⟩:=ho
  refine⟨h1,h2,fun k hk=>?_,h4,h8,⟨cells,elem,h5,h6⟩,h7⟩
  simp only[aM.box]at hk
  split at hk
  ·have iI:r=ad.block:=I.inj hk
   exact absurd (iI▸h5) (hr _ _ _)
  ·exact h3 k hk
 ·trivial
theorem az.FJ (m:az P C ω w0 C0 hp w)(e:aq C ω w w0.heap.size env tmps){b q es cg clock}(hh:hp[b]?=I .hole)(hg:w.heap[q]?=I (.map cg clock))(hq:∀k,C.β k≠I q)(hb:w0.heap.size≤q)(hr:cI C es cg.toList):
  az P (C.box b q) ω w0 C0 (hp.set b (.map es)) w∧aq (C.box b q) ω w w0.heap.size env tmps∧C.le (C.box b q):=by
 have hβ:=FH m hh
 have hle:=aM.kJ (C:=C) (r:=q) hβ
 have bw:b<hp.length:=(Gj.1 hh).1
 have ln:∀cs t fr,w.heap[q]?≠I (.cells cs t fr):=fun cs t fr h=>by rw[hg]at h;cases h
 refine⟨{ m with apart:=?_,inj:=?_,lt:=?_,fresh:=?_,grown:=aM.le_trans m.grown hle,box:=?_ },?_,hle⟩
 ·intro k r o hk
  simp only[aM.box]at hk
  split at hk
  ·cases hk
   show C.K q o=Ga
   cases hK:C.K q o with
   |none=>rfl
   |some v=>
    have:=m.know q o v hK
    simp[World.cell?,hg]at this
  ·exact m.apart k r o hk
 ·intro k k' r hk eW
  simp only[aM.box]at hk eW
  split at hk<;>split at eW
  ·rename_i h1 h2;rw[h1,h2]
  ·cases hk;exact absurd eW (hq k')
  ·cases eW;exact absurd hk (hq k)
  ·exact m.inj k k' r hk eW
 ·intro k r hk
  rw[Qw]
  simp only[aM.box]at hk
  split at hk
  ·rename_i h1;cases hk;subst h1;exact⟨(Gz.1 hg).1,bw⟩
  ·exact m.lt k r hk
 ·intro k r hk
  simp only[aM.box]at hk
  split at hk
  ·cases hk;exact .inr (.inl hb)
  ·exact m.fresh k r hk
 ·intro k y r hy hk
  simp only[aM.box]at hk
  split at hk
  ·rename_i h1
   subst h1
   cases hk
   rw[G9 bw]at hy
   cases hy
   exact⟨cg,clock,hg,hr.mono hle⟩
  ·rename_i h1
   rw[Ik (Sd h1)]at hy
   exact(m.box k y r hy hk).mono (ω':=ω) hle fun j z v ho=>ho.FI ln
 ·exact fun s y hy=>let ⟨v,h1,h2,h3⟩:=e s y hy; ⟨v,h1,aI.mono hle h2,fun h=>(h3 h).FI ln⟩
theorem Q0 {xs vs}{t:TypeId}{B b r cells}(hr:aW C xs vs)(hs:∀x∈xs,qk x=Gd)(hv:∀(j:Nat) v,vs[j]?=I v→cells[j]?=I v)(hl:xs.length≤cells.size):
  ∀C' ω' w',C.le C'→w'.heap[r]?=I (.cells cells t (0,0))→bG P C' ω' w' B b r (.cells (cellsOf xs)):=by
 intro C' ω' w' hle hg
 refine⟨cells,t,hg,by simpa[cellsOf]using hl,?_⟩
 intro j c hc
 simp only[cellsOf,Jr,En]at hc
 obtain⟨x,hx,rfl⟩:=hc
 obtain⟨v,h1,h2⟩:=hr.get hx
 exact⟨v,hv j v h1,QU h2 (hs x (Hd hx)),aI.mono hle h2,by simp⟩
theorem jd0 (m:az P C ω w0 C0 hp w)(e:aq C ω w w0.heap.size env a.tmps){t:TypeId}{z h0 rk h'}(ho:o.op=.alloc t)(hz:yw P t=I z)(hs:∀x∈z,qk x=Gd)(hn:aS h0 hp rk (.cells (cellsOf z))=I h'):
  ∃v w',(execOp a.eval o).run P w=.ok (.value v) w'∧zk P C0 w0 C a.tmps d env ⟨.ptr (h0+rk) 0,Gb,Ga,h'⟩ v w':=by
 obtain⟨hh,rfl⟩:=y6 hn
 obtain⟨_,zv,lj,cS,lC⟩:=uX (C:=C) hz
 obtain⟨m',e',hle⟩:=m.aS e hh (.cells zv.cells t) (fun c t fr h=>by cases h;rfl) (.cells (cellsOf z)) (Q0 cS hs (fun j v h=>by simpa using h) (by have:=cS.length;simp at this;omega))
 refine⟨.pointer (I ⟨w.heap.size,0,Ga⟩),_,?_,_,_,hle,m',e',.ptr _ _ _ (by simp[aM.box]),by simp⟩
 simp[execOp,ho,Instr.alloc,lj,newVar,newRow]
theorem jox (m:az P C ω w0 C0 hp w)(e:aq C ω w w0.heap.size env a.tmps){t:TypeId}{x x' v h0 rk h'}(ho:o.op=.box t x)(h1:qv x=I x')(e1:qh env x'=I v)(hs:v.flat.all qk=Gd)
  (hn:aS h0 hp rk (.cells (cellsOf v.flat))=I h'):
  ∃v w',(execOp a.eval o).run P w=.ok (.value v) w'∧zk P C0 w0 C a.tmps d env ⟨.ptr (h0+rk) 0,Gb,Ga,h'⟩ v w':=by
 obtain⟨hh,rfl⟩:=y6 hn
 have hr:=Av (qx e.cr h1 e1) hs
 obtain⟨m',e',hle⟩:=m.aS e hh (.cells (a.eval x).cells t) (fun c t fr h=>by cases h;rfl) (.cells (cellsOf v.flat)) (Q0 hr (by simpa using hs) (fun j v h=>by simpa using h) (by have:=hr.length;simp at this;omega))
 refine⟨.pointer (I ⟨w.heap.size,0,Ga⟩),_,?_,_,_,hle,m',e',.ptr _ _ _ (by simp[aM.box]),by simp⟩
 simp[execOp,ho,Instr.box,newVar,newRow]
theorem jk5 (m:az P C ω w0 C0 hp w)(e:aq C ω w w0.heap.size env a.tmps){t:TypeId}{x x' v}(ho:o.op=.box t x)(h1:qv x=I x')(e1:qh env x'=I v)(hs:v.flat.all qk=Gd):
  ∃u w',(execOp a.eval o).run P w=.ok (.value u) w'∧zk P C0 w0 C a.tmps d env ⟨.ai v,Gb,Ga,hp⟩ u w':=by
 have hr:=Av (qx e.cr h1 e1) hs
 have hx:Ext w (w.alloc (.cells (a.eval x).cells t)):=Ext.alloc w _ (fun c t fr h=>by cases h;rfl)
 have hn:∀o,0≤o→C.K w.heap.size o=Ga:=fun o _=>m.jU _ (Gn _) o
 have m':=m.newRow (a.eval x).cells t (a.eval x).cells.toList (fun j v h=>by simpa using h) (Ax hr (fun y hy=>Sf.1 hs y hy))
 refine⟨.pointer (I ⟨w.heap.size,0,Ga⟩),_,?_,_,ω,aM.gH _ hn,m',(e.put _ (.inl (Gn _)) hn).ext hx,.ai _ _ _ (aM.fo hn hr),by simp⟩
 simp[execOp,ho,Instr.box,newVar,newRow]
theorem jn7 (m:az P C ω w0 C0 hp w)(e:aq C ω w w0.heap.size env a.tmps){t:TypeId}{e' sz h0 rk h'}(ho:o.op=.alloc t)(hz:yw P t=I [.b8,.list Gd sz []])(hn:aS h0 hp rk (.fX t e' [])=I h'):
  ∃v w',(execOp a.eval o).run P w=.ok (.value v) w'∧zk P C0 w0 C a.tmps d env ⟨.ptr (h0+rk) 0,Gb,Ga,h'⟩ v w':=by
 obtain⟨hh,rfl⟩:=y6 hn
 obtain⟨_,zv,lj,cS,lC⟩:=uX (C:=C) hz
 have hzc:zv.cells=#[.pointer Ga,.slice Ga 0 0]:=by
  apply G8
  generalize zv.cells.toList=vs at cS
  cases cS with
  |cons _ _ v vs h1 h2=>
   cases h2 with
   |cons _ _ u us h3 h4=>
    cases h4
    cases h1
    cases h3
    rfl
 obtain⟨m',e',hle⟩:=m.aS e hh (.cells zv.cells t) (fun c t fr h=>by cases h;rfl) (.fX t e' []) (fun C' ω' w' _ hg=>⟨.pointer Ga,.slice Ga 0 0,by rw[hzc]at hg;exact hg,.inl rfl,.inl ⟨rfl,rfl⟩,trivial⟩)
 refine⟨.pointer (I ⟨w.heap.size,0,Ga⟩),_,?_,_,_,hle,m',e',.ptr _ _ _ (by simp[aM.box]),by simp⟩
 simp[execOp,ho,Instr.alloc,lj,newVar,newRow]
theorem jeb (m:az P C ω w0 C0 hp w)(e:aq C ω w w0.heap.size env a.tmps){t:TypeId}{h0 rk h'}(ho:o.op=.makeMap t Ga)(hn:aS h0 hp rk (.map [])=I h'):
  ∃v w',(execOp a.eval o).run P w=.ok (.value v) w'∧zk P C0 w0 C a.tmps d env ⟨.map (h0+rk),Gb,Ga,h'⟩ v w':=by
 obtain⟨hh,rfl⟩:=y6 hn
 obtain⟨m',e',hle⟩:=m.aS e hh (.map #[] 0) (fun c t fr h=>by cases h) (.map []) (fun C' ω' w' _ hg=>⟨#[],0,hg,.nil⟩)
 refine⟨.map (I w.heap.size),_,?_,_,_,hle,m',e',.map _ _ (by simp[aM.box]),by simp⟩
 simp[execOp,ho,Instr.makeMap]
theorem q93 (m:az P C ω w0 C0 hp w)(e:aq C ω w w0.heap.size env a.tmps){t:TypeId}{x x' s h0 rk h'}(ho:o.op=.range t x)(ht:P.underlying t=I .string)(h1:qv x=I x')(e1:qh env x'=I (.str s))(hn:aS h0 hp rk (.iter s 0)=I h'):
  ∃v w',(execOp a.eval o).run P w=.ok (.value v) w'∧zk P C0 w0 C a.tmps d env ⟨.ptr (h0+rk) 0,Gb,Ga,h'⟩ v w':=by
 obtain⟨hh,rfl⟩:=y6 hn
 have hs:=(qx e.cr h1 e1).cw
 obtain⟨m',e',hle⟩:=m.aS e hh (.stringIter ⟨⟨s⟩⟩ 0) (fun c t fr h=>by cases h) (.iter s 0) (fun C' ω' w' _ hg=>hg)
 refine⟨.pointer (I ⟨w.heap.size,0,Ga⟩),_,?_,_,_,hle,m',e',.ptr _ _ _ (by simp[aM.box]),by simp⟩
 simp[execOp,ho,Instr.range,run_underlying ht,hs]
end
section
variable {P:Program}{C C0:aM}{ω:Nat→Option Loc}{w w' w0:World}{hp:qi}{env:Env}{a:Act}{o:Oper}{tmps:Array Value}{d:Loc}
def vb (ω:Nat→Option Loc)(x:AVal)(v:Value)(ℓ:Loc):Nat→Option Loc:=
 match x,v with
 | .list ..,.slice (I ad) _ _=>cQ ω ad.block ℓ
 | .db _,.pointer (I ad)=>cQ ω ad.block ℓ
 |_,_=>ω
theorem yA {B ℓ0 ℓ ℓ' x z cv u}(h0:aO C ω w B ℓ0 x cv)(bI:ℓ≠ℓ0)(hz:aO C ω w B ℓ z u):aO C (vb ω x cv ℓ') w B ℓ z u:=by
 unfold vb
 split
 ·rename_i ad l c
  have hω:ω ad.block=I ℓ0:=h0.1
  exact hz.other (.inl (by rw[hω];intro h;exact bI (I.inj h).symm))
 ·rename_i n ad
  have hω:ω ad.block=I ℓ0:=h0.1
  exact hz.other (.inl (by rw[hω];intro h;exact bI (I.inj h).symm))
 ·exact hz
theorem KJ {B ℓ0 ℓ' x cv}(h0:aO C ω w B ℓ0 x cv):aO C (vb ω x cv ℓ') w B ℓ' x cv:=by
 unfold vb
 split
 ·exact⟨by simp[cQ],h0.2⟩
 ·exact⟨by simp[cQ],h0.2⟩
 ·rename_i h1 h2
  unfold aO
  split
  ·exact absurd rfl (h1 _ _ _ _ _ _ rfl)
  ·exact absurd rfl (h2 _ _ rfl)
  ·trivial
theorem wo {b cs}(h:ju hp b=I cs):hp[b]?=I (.cells cs):=by
 unfold ju at h
 split at h
 ·rename_i eN h';cases h;exact h'
 ·cases h
theorem AF {b x h'}(h:jt hp b x=I h'):h'=hp.set b x:=by
 unfold jt at h
 cases hb:Yj b hp.length with
 |false=>simp[hb]at h
 |true=>simpa[hb]using h.symm
theorem bG.store {ω':Nat→Option Loc}{B b r off:Nat}{cs:List (AVal×Bool)}{us:List AVal}{news:List Value}{fl:List Bool}{vs:Array Value}{t:TypeId}(KK:fl.length=us.length)(hr:aW C us news)(h1:∀v∈news,v.oneCell'=Gd)
  (hl:off+us.length≤cs.length) (da:cs.length≤vs.size) (hold:∀j c,cs[j]?=I c→∃v,vs[j]?=I v∧v.oneCell'=Gd∧bR C c.1 v∧(c.2=Gd→aO C ω' w' B (.cell b j) c.1 v))
  (dh:∀j u v,us[j]?=I u→news[j]?=I v→fl[j]?=I Gd→aO C ω' w' B (.cell b (off+j)) u v)
  (hg:w'.heap[r]?=I (.cells (vs.toList.take off++news++vs.toList.drop (off+news.length)).toArray t (0,0))):
  bG P C ω' w' B b r (.cells (cs.take off++us.zip fl++cs.drop (off+us.length))):=by
 have nf:=hr.length
 refine⟨_,t,hg,?_,?_⟩
 ·simp;omega
 ·intro j c hc
  rw[Ig]at hc
  have e1:(Yh off cs).length=off:=by simp;omega
  have e2:(us.zip fl).length=us.length:=by simp[KK]
  have f1:(Yh off vs.toList).length=off:=by simp;omega
  simp only[Gs,Ig]
  by_cases hj:j<off
  ·rw[Gi (by omega),Hc hj]at hc
   obtain⟨v,a1,a2,a3,a4⟩:=hold j c hc
   exact⟨v,by rw[Gi (by omega),Hc hj,Gq];exact a1,a2,a3,a4⟩
  ·rw[Gm (by omega),e1]at hc
   by_cases hj2:j<off+us.length
   ·rw[Gi (by omega)]at hc
    have dY:=List.getElem?_zip_eq_some.1 hc
    obtain⟨v,a1,a2⟩:=hr.get dY.1
    refine⟨v,by rw[Gm (by omega),f1,Gi (by omega)];exact a1,h1 v (Hd a1),a2,fun hf=>?_⟩
    have:=dh (j-off) c.1 v dY.1 a1 (by rw[dY.2,hf])
    rw[show off+(j-off)=j from by omega]at this
    exact this
   ·rw[Gm (by omega),e2,Sb]at hc
    rw[show off+us.length+(j-off-us.length)=j from by omega]at hc
    obtain⟨v,a1,a2,a3,a4⟩:=hold j c hc
    exact⟨v,by rw[Gm (by omega),f1,Gm (by omega),Sb,show off+news.length+(j-off-news.length)=j from by omega,Gq];exact a1,a2,a3,a4⟩
theorem jdz (us:List AVal):us.zip (Gh us.length Gb)=us.map (·,Gb):=by
 induction us with
 |nil=>rfl
 |cons x us ih=>simp only[List.length_cons,Ix,List.zip_cons_cons,ih,Yi]
theorem q5z (m:az P C ω w0 C0 hp w)(e:aq C ω w w0.heap.size env tmps){b r off:Nat}{cs:List (AVal×Bool)}{us:List AVal}{news:List Value}(hb:hp[b]?=I (.cells cs))(hr:C.β b=I r)(gZ:aW C us news)(h1:∀v∈news,v.oneCell'=Gd)(hl:off+us.length≤cs.length):
  ∃vs t,w.heap[r]?=I (.cells vs t (0,0))∧off+news.length≤vs.size ∧
   az P C ω w0 C0 (hp.set b (.cells (cs.take off++us.map (·,Gb)++cs.drop (off+us.length)))) (w.setRow r (vs.toList.take off++news++vs.toList.drop (off+news.length)).toArray) ∧
   aq C ω (w.setRow r (vs.toList.take off++news++vs.toList.drop (off+news.length)).toArray) w0.heap.size env tmps:=by
 obtain⟨vs,t,hg,da,hold⟩:=m.box b _ r hb hr
 have hu:=Fw hg (vs.toList.take off++news++vs.toList.drop (off+news.length)).toArray
 have nf:=gZ.length
 refine⟨vs,t,hg,by omega,m.ec hu.iN hr _ (fun b' j y v _ h=>h) ?_,e.dP hu.iN hr⟩
 rw[←jdz]
 refine bG.store (by simp) gZ h1 hl da (fun j c hc=>?_) (fun j u v _ _ hf=>?_) (setRow_heap w r vs _ t (0,0) hg)
 ·obtain⟨v,a1,a2,a3,a4⟩:=hold j c hc
  exact⟨v,a1,a2,a3,fun h=>(a4 h).dP hu.iN hr⟩
 ·rw[List.getElem?_replicate]at hf;split at hf<;>cases hf
theorem Q5 {t te:TypeId}{n r off v vs}(hn:jp P t=I n)(hl:v.cells.toList.length=n)(hg:w.heap[r]?=I (.cells vs te (0,0)))(cG:off+v.cells.toList.length≤vs.size)(h1:∀u∈v.cells.toList,u.oneCell'=Gd):
  (storeVar t ⟨r,off,Ga⟩ v).run P w=.ok () (w.setRow r (vs.toList.take off++v.cells.toList++vs.toList.drop (off+v.cells.toList.length)).toArray):=by
 have cq:=run_storeCells_at (P:=P) r off te v.cells.toList 0 vs w hg (by simpa using cG) h1
 simp only[Ue]at cq
 have:¬(v.cells.size≠n):=by simp at hl;simpa using hl
 simp only[storeVar,Sem.run_bind,ym hn,Result.andThen_ok,this,if_false,Sem.run_ite,cq]
theorem jee (m:az P C ω w0 C0 hp w)(e:aq C ω w w0.heap.size env a.tmps){t:TypeId}{x y x' y' n b q v cs eN h'}(ho:o.op=.store t x y)(hn:jp P t=I n)
  (h1:qv x=I x') (h2:qv y=I y') (e1:qh env x'=I (.ptr b q)) (e2:qh env y'=I v) (lm:ju hp b=I cs) (wm:v.flat.length=n) (cq:jr cs q v.flat=I eN) (bF:jt hp b (.cells eN)=I h'):
  ∃w',(execOp a.eval o).run P w=.ok .skip w'∧zk P C0 w0 C a.tmps d env ⟨.undef,Gb,Ga,h'⟩ undef w':=by
 obtain⟨r,hr,hq⟩:=(qx e.cr h1 e1).dz
 unfold jr at cq
 cases hb:(Tp (q+v.flat.length) cs.length&&v.flat.all qk)with
 |false=>simp[hb]at cq
 |true=>
  simp only[hb,cond_true,I.injEq]at cq
  simp only[Gy]at hb
  subst cq
  have ry:=Av (qx e.cr h2 e2) hb.2
  have df:=Ax ry (by simpa using hb.2)
  obtain⟨vs,te,hg,cG,m',e'⟩:=q5z m e (wo lm) hr ry df (Ny hb.1)
  obtain rfl:=AF bF
  have bH:=Q5 (P:=P) hn (by rw[ry.length,wm]) hg cG df
  exact⟨_,by simp[execOp,ho,Instr.storeAt,hq,Instr.sureAddr,bH],C,ω,aM.le_refl C,m',e',.undef,by simp⟩
theorem q5a (m:az P C ω w0 C0 hp w)(e:aq C ω w w0.heap.size env a.tmps){t:TypeId}{x y:Operand}{x' y':js}{b q s:Nat}{v:AVal}{cs:List (AVal×Bool)}{h':qi}(ho:o.op=.store t x y)(hn:jp P t=I 1)
  (h1:qv x=I x') (h2:qv y=I y') (e1:qh env x'=I (.ptr b q)) (e2:qh env y'=I v) (lm:ju hp b=I cs) (hv:v.cR=Gd) (bw:q<cs.length) (c7:zm env y'=I s) (bF:jt hp b (.cells (cs.set q (v,Gd)))=I h'):
  ∃w',(execOp a.eval o).run P w=.ok .skip w'∧zk P C0 w0 C a.tmps d env ⟨.undef,Gb,I s,h'⟩ undef w':=by
 obtain⟨r,hr,hq⟩:=(qx e.cr h1 e1).dz
 have ry:=qx e.cr h2 e2
 obtain⟨qR,v0,hl⟩:=Fz c7
 have gi:v0=v:=by subst qR;simp only[qh,hl]at e2;exact I.inj e2
 subst gi
 have jY:v0.flat=[v0]:=by cases v0<;>simp[AVal.cR]at hv<;>rfl
 have hsc:qk v0=Gd:=by cases v0<;>simp[AVal.cR]at hv<;>rfl
 have rf:=Av ry (by rw[jY];simpa using hsc)
 rw[jY]at rf
 have df:=Ax rf (by simpa using hsc)
 have ep:(a.eval y).cells.toList=[a.eval y]:=by
  have:=QU ry hsc
  cases hh:a.eval y<;>simp[hh,Value.oneCell']at this<;>rfl
 obtain⟨cv,x6,KH,AA⟩:=e s _ hl
 have oI:a.eval y=cv:=by
  have AG:qv y=I (.tmp s):=by rw[h2,qR]
  cases y with
  |tmp t'=>simp only[qv]at AG;cases AG;simp[Act.eval,Gt,x6]
  |const u=>simp only[qv]at AG;split at AG<;>cases AG
  |func f=>simp[qv]at AG
  |global g=>simp[qv]at AG
 obtain⟨vs,te,hg,da,hold⟩:=m.box b _ r (wo lm) hr
 have hu:=Fw hg (vs.toList.take q++[a.eval y]++vs.toList.drop (q+1)).toArray
 have hH:(a.eval y).cells.toList.length=1:=by rw[ep];rfl
 have bH:=Q5 (P:=P) (t:=t) (off:=q) hn hH hg (by omega) df
 rw[hH,ep]at bH
 obtain rfl:=AF bF
 have yB:=AA rfl
 have n8:∀ℓ z u,ℓ≠.slot s→aO C ω w w0.heap.size ℓ z u→aO C (vb ω v0 cv (.cell b q)) w w0.heap.size ℓ z u:=fun ℓ z u hℓ hz=>yA yB hℓ hz
 have dh:aO C (vb ω v0 cv (.cell b q)) w w0.heap.size (.cell b q) v0 cv:=KJ yB
 have hcs:cs.take q++[(v0,Gd)]++cs.drop (q+1)=cs.set q (v0,Gd):=by
  rw[List.set_eq_take_append_cons_drop,if_pos bw];simp
 refine⟨w.setRow r (vs.toList.take q++[a.eval y]++vs.toList.drop (q+1)).toArray,by simp only[execOp,ho,Instr.storeAt,Sem.run_bind,hq,Instr.sureAddr,Sem.run_pure,Result.andThen_ok,bH],C,vb ω v0 cv (.cell b q),aM.le_refl C,?_,?_,.undef,by simp⟩
 ·refine m.ec hu.iN hr _ (fun b' j z u fH hz=>n8 _ z u (by simp) hz) ?_
  rw[←hcs]
  have hz:[(v0,Gd)]=[v0].zip [Gd]:=rfl
  rw[hz]
  refine bG.store (us:=[v0]) (fl:=[Gd]) (news:=[a.eval y]) rfl (by rw[←ep];exact rf) (by rw[←ep];exact df) (by simp;omega) da (fun j c hc=>?_) (fun j u v FK nY _=>?_) (setRow_heap w r vs _ te (0,0) hg)
  ·obtain⟨v,a1,a2,a3,a4⟩:=hold j c hc
   exact⟨v,a1,a2,a3,fun h=>(n8 _ _ _ (by simp) (a4 h)).dP hu.iN hr⟩
  ·cases j with
   |zero=>
    simp at FK nY
    subst FK;subst nY
    have h3:=dh.dP hu.iN hr
    exact oI▸h3
   |succ j=>simp at FK
 ·intro t' x' fp
  by_cases lF:t'=s
  ·subst lF
   simp only[yb,hl,ji,St,cond_true]at fp
   cases fp
   exact⟨cv,x6,KH,by simp⟩
  ·have iP:ji t' env=I x':=by
    simp only[yb,hl,ji]at fp
    have:G7 s t'=Gb:=by
     cases hb:G7 s t' with
     |false=>rfl
     |true=>exact absurd (Ge hb).symm lF
    rw[this]at fp
    exact fp
   obtain⟨u,k1,k2,k3⟩:=e t' x' iP
   exact⟨u,k1,k2,fun h=>(n8 _ _ _ (by simp[lF]) (k3 h)).dP hu.iN hr⟩
end
section
variable {P:Program}{C C0:aM}{ω:Nat→Option Loc}{w w' w0:World}{hp:qi}{env:Env}{a:Act}{o:Oper}{tmps:Array Value}{d:Loc}
theorem q0s {s v ow}(hl:ji s env=I (v,ow)){t x}(hx:ji t (yb env (I s))=I x):(t=s∧x=(v,Gb))∨(t≠s∧ji t env=I x):=by
 simp only[yb,hl,ji]at hx
 cases hb:G7 s t with
 |true=>
  simp only[hb,cond_true,I.injEq]at hx
  exact .inl ⟨(Ge hb).symm,hx.symm⟩
 |false=>
  simp only[hb,cond_false]at hx
  refine .inr ⟨fun h=>?_,hx⟩
  subst h
  simp at hb
theorem jg0 (m:az P C ω w0 C0 hp w)(e:aq C ω w w0.heap.size env a.tmps){s v ow}(ho:o.op=.move (.tmp s)∨o.op=.assign (.tmp s))(hl:ji s env=I (v,ow)):
  ∃u w',(execOp a.eval o).run P w=.ok (.value u) w'∧zk P C0 w0 C a.tmps d env ⟨v,ow,I s,hp⟩ u w':=by
 obtain⟨cv,h1,h2,h3⟩:=e s _ hl
 have fI:a.eval (.tmp s)=cv:=by simp[Act.eval,Gt,h1]
 have bH:(execOp a.eval o).run P w=.ok (.value cv) w:=by rcases ho with ho|ho<;>simp[execOp,ho,fI]
 refine⟨cv,w,bH,?_⟩
 by_cases hk:ow=Gd
 ·subst hk
  have c7:=h3 rfl
  refine⟨C,vb ω v cv d,aM.le_refl C,?_,?_,h2,fun _=>KJ c7⟩
  ·exact { m with box:=fun b x r hx hb=>(m.box b x r hx hb).mono (aM.le_refl C) fun j y u hz=>yA c7 (by simp) hz }
  ·intro t x hx
   rcases q0s hl hx with⟨rfl,rfl⟩|⟨bI,fp⟩
   ·exact⟨cv,h1,h2,by simp⟩
   ·obtain⟨u,k1,k2,k3⟩:=e t x fp
    exact⟨u,k1,k2,fun h=>yA c7 (by simpa using bI) (k3 h)⟩
 ·refine⟨C,ω,aM.le_refl C,m,e.strip _,h2,fun h=>absurd h hk⟩
theorem q41 (m:az P C ω w0 C0 hp w)(e:aq C ω w w0.heap.size env a.tmps){t:TypeId}{x x' b q v ow cs h'}(ho:o.op=.load t x)(dm:yr P t=I Gb)
  (h1:qv x=I x') (e1:qh env x'=I (.ptr b q)) (lm:ju hp b=I cs) (hc:cs[q]?=I (v,ow)) (bF:jt hp b (.cells (cs.set q (v,Gb)))=I h'):
  ∃u w',(execOp a.eval o).run P w=.ok (.value u) w'∧zk P C0 w0 C a.tmps d env ⟨v,ow,Ga,h'⟩ u w':=by
 obtain⟨r,hr,hq⟩:=(qx e.cr h1 e1).dz
 obtain⟨vs,te,hg,da,hold⟩:=m.box b _ r (wo lm) hr
 obtain⟨cv,k1,k2,k3,k4⟩:=hold q _ hc
 obtain rfl:=AF bF
 have ep:w.cell? ⟨r,q,Ga⟩=I cv:=by
  simp only[World.cell?,hg]
  simpa using k1
 have bH:(execOp a.eval o).run P w=.ok (.value cv) w:=by
  simp[execOp,ho,hq,Instr.loadAt,Instr.sureAddr,FF dm ep]
 have hu:ng w w r:=⟨rfl,fun _ _=>rfl,fun c t fr h=>by rw[hg]at h;cases h;rfl,rfl,rfl⟩
 have gK:∀ω':Nat→Option Loc,(∀j c u,j≠q→aO C ω w w0.heap.size (.cell b j) c u→aO C ω' w w0.heap.size (.cell b j) c u)→bG P C ω' w w0.heap.size b r (.cells (cs.set q (v,Gb))):=by
  intro ω' hk
  refine⟨vs,te,hg,by simpa using da,fun j c hj=>?_⟩
  rw[X2]at hj
  split at hj
  ·rename_i Q6
   subst Q6
   split at hj
   ·cases hj;exact⟨cv,k1,k2,k3,by simp⟩
   ·cases hj
  ·rename_i Q6
   obtain⟨u,a1,a2,a3,a4⟩:=hold j c hj
   exact⟨u,a1,a2,a3,fun h=>hk _ _ _ (Sd Q6) (a4 h)⟩
 refine⟨cv,w,bH,?_⟩
 by_cases hk:ow=Gd
 ·subst hk
  have c7:=k4 rfl
  refine⟨C,vb ω v cv d,aM.le_refl C,?_,?_,k3,fun _=>KJ c7⟩
  ·exact m.ec hu hr _ (fun b' j y u fH hz=>yA c7 (by simp[fH]) hz) (gK _ fun j c u hj hz=>yA c7 (by simp[hj]) hz)
  ·exact fun t x hx=>let ⟨u,k1,k2,k3⟩:=e t x hx; ⟨u,k1,k2,fun h=>yA c7 (by simp) (k3 h)⟩
 ·refine⟨C,ω,aM.le_refl C,m.ec hu hr _ (fun _ _ _ _ _ h=>h) (gK _ fun _ _ _ _ h=>h),e,k3,fun h=>absurd h hk⟩
end
section
variable {P:Program}{C C0:aM}{ω:Nat→Option Loc}{w w' w0:World}{hp:qi}{env:Env}{a:Act}{o:Oper}{tmps:Array Value}{d:Loc}
theorem qx8 (m:az P C ω w0 C0 hp w)(e:aq C ω w w0.heap.size env a.tmps){t el:TypeId}{x y:Operand}{x' y':js}{n sz b h0 rk:Nat}{z h'}
  (ho:o.op=.makeSlice t x y) (ht:P.underlying t=I (.slice el)) (hn:jp P el=I sz) (hb:nS P el=I b) (hz:yw P el=I z) (Q7:0<sz) (iq:z.length=sz)
  (h1:qv x=I x') (h2:qv y=I y') (e1:qh env x'=I (.int .i64 (n:Int))) (e2:qh env y'=I (.int .i64 (n:Int))) (hle:n≤1073741824) (jK:b≤4096)
  (dh:aS h0 hp rk (.cells (cellsOf (Gh n z).flatten))=I h'):
  ∃v w',(execOp a.eval o).run P w=.ok (.value v) w'∧zk P C0 w0 C a.tmps d env ⟨.ms (h0+rk) 0 n,Gb,Ga,h'⟩ v w':=by
 obtain⟨hh,rfl⟩:=y6 dh
 obtain⟨qI,zv,lj,cS,lC⟩:=uX (C:=C) hz
 have mX:zv.cells.toList.length=sz:=by rw[cS.length,iq]
 have jV:((Ha (n*sz)).map (fun i=>zv.cells[i % zv.cells.size]!)).toList=(Gh n zv.cells.toList).flatten:=by
  have:=KE mX Q7 n
  simpa using this
 have r1:=(qx e.cr h1 e1).bU
 have r2:=(qx e.cr h2 e2).bU
 have gh:aW C (Gh n z).flatten ((Ha (n*sz)).map (fun i=>zv.cells[i % zv.cells.size]!)).toList:=by
  rw[jV];exact cS.replicate n
 obtain⟨i,hi,qM⟩:∃i,P.info? el=I i∧i.bytes=b:=by
  unfold nS at hb
  cases hi:P.info? el with
  |none=>simp[hi]at hb
  |some i=>exact⟨i,rfl,by simpa[hi]using hb⟩
 have kH:i.size=sz:=by
  unfold jp at hn
  rw[hi]at hn
  simpa using hn
 have qN:IntKind.i64.wrap (n:Int)=n:=by
  rw[←Ar];unfold qe
  have:qE .i64 (n:Int)=Gd:=by simp[qE];exact If hle (by decide)
  rw[this];rfl
 have Ap:b*n≤281474976710656:=If (Nz jK hle) (by decide)
 obtain⟨m',e',cY⟩:=m.aS e hh (.cells ((Ha (n*sz)).map (fun i=>zv.cells[i % zv.cells.size]!)) el) (fun c t fr h=>by cases h;rfl) (.cells (cellsOf (Gh n z).flatten))
  (Q0 gh (by
   intro x h
   rw[Sh]at h
   obtain⟨l,q1,q2⟩:=h
   obtain⟨_,rfl⟩:=Jk.1 q1
   exact qI x q2) (by intro j v h;rw[Gq]at h;exact h) (by have:=gh.length;simp at this;simp;omega))
 refine⟨.slice (I ⟨w.heap.size,0,Ga⟩) n n,w.alloc (.cells ((Ha (n*sz)).map (fun i=>zv.cells[i % zv.cells.size]!)) el),?_,_,_,cY,m',e',.ms _ _ _ _ _ (by simp[aM.box]) (Gn _),by simp⟩
 have c1:¬((b:Int)*(n:Int) > 2^48):=by
  have h1:((b*n:Nat):Int)≤281474976710656:=Int.ofNat_le.2 Ap
  rw[Int.natCast_mul]at h1
  have h2:(2:Int)^48=281474976710656:=by decide
  rw[h2];omega
 have c2:¬((n:Int)<0):=by omega
 have hr:Ha 0=#[]:=rfl
 simp only[execOp,ho,Instr.makeSlice,Sem.run_bind,run_underlying ht,r1,r2,asInt,asIntOf,Sem.run_pure,Result.andThen_ok,typeInfo,run_program,hi,qM,qN,c2,c1,decide_false,Yg,Hb,if_false,Int.lt_irrefl,gt_iff_lt,run_askRoom,Int.toNat_natCast,ym hn,newRow]
 by_cases Au:n=0
 ·subst Au
  simp[hr]
 ·have bI:¬(n*sz=0):=by
   intro h
   rcases Tm.1 h with h|h<;>omega
  simp[bI,lj]
theorem j1i (m:az P C ω w0 C0 hp w)(e:aq C ω w w0.heap.size env tmps){b r s cells}{t:TypeId}{us news}(hh:hp[b]?=I .hole)(hω:ω r=I (.slot s))(hB:w0.heap.size≤r∨C.W r)(hβ:∀b,C.β b≠I r)
  (hg:w.heap[r]?=I (.cells cells t (0,0))) (hK:∀o,C.K r o=Ga) (cG:news.length≤cells.size) (gZ:aW C us news) (df:∀v∈news,v.oneCell'=Gd):
  az P (C.box b r) ω w0 C0 (hp.set b (.cells (cellsOf us))) (w.setRow r (cells.toList.take 0++news++cells.toList.drop (0+news.length)).toArray) ∧
  aq (C.box b r) ω (w.setRow r (cells.toList.take 0++news++cells.toList.drop (0+news.length)).toArray) w0.heap.size (yb env (I s)) tmps∧C.le (C.box b r):=by
 have hu:=Fw hg (cells.toList.take 0++news++cells.toList.drop (0+news.length)).toArray
 have lG:=setRow_heap w r cells (cells.toList.take 0++news++cells.toList.drop (0+news.length)).toArray t (0,0) hg
 generalize w.setRow r (cells.toList.take 0++news++cells.toList.drop (0+news.length)).toArray=w' at hu lG
 have Q9:=FH m hh
 have hle:=aM.kJ (C:=C) (r:=r) Q9
 have bw:b<hp.length:=(Gj.1 hh).1
 have Ra:r<w.heap.size:=(Gz.1 hg).1
 have c7:∀ℓ x v,ℓ≠.slot s→aO C ω w w0.heap.size ℓ x v→aO (C.box b r) ω w' w0.heap.size ℓ x v:=by
  intro ℓ x v hℓ ho
  have bI:ω r≠I ℓ:=by rw[hω];intro h;exact hℓ (I.inj h).symm
  exact(ho.box (.inr bI)).iN hu bI
 refine⟨?_,?_,hle⟩
 ·refine { base:=m.base,know:=?_,dw:=m.dw,apart:=?_,inj:=?_,lt:=?_,size:=?_,frame:=?_,ft:=?_,os:=hu.os.trans m.os,output:=hu.output.trans m.output,fresh:=?_,grown:=aM.le_trans m.grown hle,old:=m.old,box:=?_,iF:=fun q hq=>by rw[hu.size];exact m.iF q hq }
  ·intro k q v hk
   have iu:k≠r:=fun h=>by
    have eW:C.K k q=I v:=hk
    rw[h,hK q]at eW;cases eW
   have hc:=m.know _ _ _ hk
   simp only[World.cell?]at hc ⊢
   rw[hu.other k iu];exact hc
  ·intro k q p hk
   simp only[aM.box]at hk
   split at hk
   ·cases hk;exact hK p
   ·exact m.apart k q p hk
  ·intro k k' q hk eW
   simp only[aM.box]at hk eW
   split at hk<;>split at eW
   ·rename_i h1 h2;rw[h1,h2]
   ·cases hk;exact absurd eW (hβ k')
   ·cases eW;exact absurd hk (hβ k)
   ·exact m.inj k k' q hk eW
  ·intro k q hk
   rw[Qw,hu.size]
   simp only[aM.box]at hk
   split at hk
   ·rename_i h1;cases hk;subst h1;exact⟨Ra,bw⟩
   ·exact m.lt k q hk
  ·rw[hu.size];exact m.size
  ·intro k hk hn hw
   have iu:k≠r:=fun h=>by
    subst h
    rcases hB with h|h
    ·omega
    ·rw[m.grown.w]at h;exact hw h
   rw[hu.other k iu];exact m.frame k hk hn hw
  ·intro k hk
   have iu:k≠r:=fun h=>by
    subst h
    have:=m.ft k hk
    rw[hg]at this;cases this
   rw[hu.other k iu];exact m.ft k hk
  ·intro k q hk
   simp only[aM.box]at hk
   split at hk
   ·cases hk
    rcases hB with h|h
    ·exact .inr (.inl h)
    ·rw[m.grown.w]at h;exact .inr (.inr h)
   ·exact m.fresh k q hk
  ·intro k x q hx hk
   simp only[aM.box]at hk
   split at hk
   ·rename_i h1
    subst h1
    cases hk
    rw[G9 bw]at hx
    cases hx
    have nf:=gZ.length
    refine⟨_,t,lG,by simp[cellsOf];omega,?_⟩
    intro j c hc
    simp only[cellsOf,Jr,En]at hc
    obtain⟨x,hx,rfl⟩:=hc
    obtain⟨v,h1,h2⟩:=gZ.get hx
    have hj:j<news.length:=(Gj.1 h1).1
    refine⟨v,?_,df v (Hd h1),aI.mono hle h2,by simp⟩
    simp only[List.take_zero,R9,Gs]
    rw[Gi hj];exact h1
   ·rename_i h1
    rw[Ik (Sd h1)]at hx
    have bI:q≠r:=fun h=>hβ k (h▸hk)
    have ll:bG P C ω w' w0.heap.size k q x:=(m.box k x q hx hk).iN hu bI (fun j=>by rw[hω];simp)
    exact ll.mono hle fun j y v ho=>ho.box (.inr (by rw[hω];simp))
 ·intro t' x hx
  by_cases lF:t'=s
  ·subst lF
   simp only[yb]at hx
   cases hl:ji t' env with
   |none=>rw[hl]at hx;simp only[hl]at hx;cases hx
   |some y=>
    rw[hl]at hx
    simp only[ji,St,cond_true]at hx
    cases hx
    obtain⟨v,h2,h3,_⟩:=e t' y hl
    exact⟨v,h2,aI.mono hle h3,by simp⟩
  ·have fp:ji t' env=I x:=by
    simp only[yb]at hx
    cases hl:ji s env with
    |none=>rw[hl]at hx;exact hx
    |some y=>
     rw[hl]at hx
     simp only[ji]at hx
     have:G7 s t'=Gb:=by
      cases hb:G7 s t' with
      |false=>rfl
      |true=>exact absurd (Ge hb).symm lF
     rw[this]at hx
     exact hx
   obtain⟨v,h2,h3,h4⟩:=e t' x fp
   exact⟨v,h2,aI.mono hle h3,fun h=>c7 _ _ _ (by simp[lF]) (h4 h)⟩
theorem q6k {xs vs}{t:TypeId}{B b r cells}(hr:aW C xs vs)(df:∀v∈vs,v.oneCell'=Gd)(hv:∀(j:Nat) v,vs[j]?=I v→cells[j]?=I v)(hl:xs.length≤cells.size):
  ∀C' ω' w',C.le C'→w'.heap[r]?=I (.cells cells t (0,0))→bG P C' ω' w' B b r (.cells (cellsOf xs)):=by
 intro C' ω' w' hle hg
 refine⟨cells,t,hg,by simpa[cellsOf]using hl,?_⟩
 intro j c hc
 simp only[cellsOf,Jr,En]at hc
 obtain⟨x,hx,rfl⟩:=hc
 obtain⟨v,h1,h2⟩:=hr.get hx
 exact⟨v,hv j v h1,df v (Hd h1),aI.mono hle h2,by simp⟩
theorem q0y (m:az P C ω w0 C0 hp w)(e:aq C ω w w0.heap.size env a.tmps){c}{t u el:TypeId}{ut:TypeDesc}{x y x' y' sz b h0 rk n dl ys vy h'}
  (ho:o.op=.call c) (ek:c.callee=.builtin .append) (eC:c.args.toList=[x,y]) (eV:c.argTypes.toList=[t,u]) (ht:P.underlying t=I (.slice el)) (hu:P.underlying u=I ut) (jL:Ai ut=Gd)
  (hn:jp P el=I sz) (hb:nS P el=I b) (h1:qv x=I x') (h2:qv y=I y') (e1:qh env x'=I (.list n dl [])) (e2:qh env y'=I vy) (cX:zw sz vy=I ys)
  (c7:(zm env x').isSome=Gd) (Rb:n=Gb) (hlen:ys.length≤1073741824) (jK:b≤4096) (hzero:∃z,yw P el=I z∧z.length=sz) (AB:sz=dl)
  (dh:aS h0 hp rk (.cells (cellsOf (ys.flatMap AVal.flat)))=I h'):
  ∃v w',(execOp a.eval o).run P w=.ok (.value v) w'∧zk P C0 w0 C a.tmps d env ⟨.ms (h0+rk) 0 ys.length,Gb,zm env x',h'⟩ v w':=by
 obtain⟨hh,rfl⟩:=y6 dh
 subst Rb
 subst AB
 have ha:c.args=#[x,y]:=by apply G8;simpa using eC
 have lB:c.argTypes=#[t,u]:=by apply G8;simpa using eV
 obtain⟨i,hi,qM⟩:∃i,P.info? el=I i∧i.bytes=b:=by
  unfold nS at hb
  cases hi:P.info? el with
  |none=>simp[hi]at hb
  |some i=>exact⟨i,rfl,by simpa[hi]using hb⟩
 have kH:i.size=sz:=by
  unfold jp at hn;rw[hi]at hn;simpa using hn
 obtain⟨z,hz,AE⟩:=hzero
 obtain⟨zv,nc⟩:∃zv,i.zero=I zv:=by
  unfold yw at hz;rw[hi]at hz
  cases hq:i.zero with
  |none=>simp[hq]at hz
  |some v=>exact⟨v,rfl⟩
 have rx:=qx e.cr h1 e1
 have ry:=qx e.cr h2 e2
 obtain⟨news,hs,de,fO,df⟩:=KG m hu jL cX ry
 have fg:∀ {z:Value} {w':World},(Builtin.append_ #[t,u] o.type #[a.eval x,a.eval y]).run P w=.ok z w'→(execOp a.eval o).run P w=.ok (.value z) w':=by
  intro z w' h
  simp[execOp,ho,resolve,ek,ha,lB,invoke,builtin,h]
 have nf:news.length=ys.length*sz:=by rw[de.length,yn ys fO]
 rcases rx.dc with⟨hh1,_,_⟩|⟨_,r,q,cap,hx,hle,dp⟩|⟨_,_,ad,mg,hx⟩
 rotate_right
 ·exact absurd (q27 e h1 c7 e1 hx) mg
 ·cases hh1
 ·obtain⟨s,hJ⟩:=Ry.1 c7
  obtain⟨fp,v0,hl⟩:=Fz hJ
  have gi:v0=.list Gb sz []:=by
   subst fp
   simp only[qh,hl]at e1
   exact I.inj e1
  subst gi
  obtain⟨cv,x6,KH,AA⟩:=e s _ hl
  have oI:cv=.slice (I ⟨r,q,Ga⟩) 0 cap:=by
   have iO:qv x=I (.tmp s):=by rw[h1,fp]
   cases x with
   |tmp t'=>
    simp only[qv]at iO
    cases iO
    have:a.eval (.tmp s)=cv:=by simp[Act.eval,Gt,x6]
    rw[←this,hx];rfl
   |const u=>simp only[qv]at iO;split at iO<;>cases iO
   |func f=>simp[qv]at iO
   |global g=>simp[qv]at iO
  subst oI
  obtain⟨hω,hB,hβ,_,KI,⟨cells,te,hg,cG⟩,hK⟩:=AA rfl
  simp only at hω hB hβ hg cG hK KI
  subst KI
  simp only[List.length_nil]at hx
  by_cases eJ:0+ys.length≤cap
  ·have gJ:(0+ys.length)*sz≤cap*sz:=Gx _ eJ
   have bH:=QW (P:=P) (w:=w) (ty:=o.type) ht hi r 0 0 cap (a.eval y) ys.length news (kH▸hs) eJ hg (by rw[nf];simp at gJ cG ⊢;omega)
   rw[←hx]at bH
   have e0:0+0*i.size=0:=by simp
   rw[e0]at bH
   obtain⟨m',e',cY⟩:=j1i (tmps:=a.tmps) m e hh hω hB hβ hg (fun o=>hK o (by simp)) (by rw[nf];simp at gJ cG ⊢;omega) de df
   rw[hJ]
   refine⟨_,_,fg bH,_,_,cY,m',e',?_,by simp⟩
   have:=aI.ms (C:=C.box (h0+rk) r) (h0+rk) 0 ys.length r cap (by simp[aM.box]) (by omega)
   simpa using this
  ·have FL:Builtin.nextslicecap (0+ys.length) cap*i.bytes≤281474976710656:=growslice_fits (by omega) (by
    rw[qM]
    exact If (Nz (by omega) jK) (by decide:2^30*4096≤_))
   have bH:=run_append_grow_src w t u o.type el i zv ht hi nc (I ⟨r,0,Ga⟩) 0 cap [] (run_firstCells_some _ _ _ _ _ _ [] (by simp) (by simp)) (a.eval y) ys.length news (kH▸hs) (by omega) (by omega) FL
   rw[←hx]at bH
   have uZ:=grownCap_ge w (0+ys.length) cap el
   have iP:Ext w w.drew:=Ext.drew w
   obtain⟨m',e',cY⟩:=(m.ext iP).aS (e.ext iP) hh (.cells (([]++news).toArray++Builtin.zeroCells zv.cells (grownCap w (0+ys.length) cap el-(0+ys.length))) el) (fun c t fr h=>by cases h;rfl) (.cells (cellsOf (ys.flatMap AVal.flat)))
    (q6k de df (by
     intro j v hj
     rw[He (by simpa using(Gj.1 hj).1)]
     simpa using hj) (by have h5:=de.length;rw[Se];simp only[R9,R6];omega))
   refine⟨_,_,fg bH,_,_,cY,m',e'.strip _,?_,by simp⟩
   have:=aI.ms (C:=C.box (h0+rk) w.drew.heap.size) (h0+rk) 0 ys.length w.drew.heap.size (grownCap w (0+ys.length) cap el) (by simp[aM.box]) (by omega)
   simpa using this
end
section
variable {P:Program}{C C0:aM}{ω:Nat→Option Loc}{w w' w0:World}{hp:qi}{env:Env}{a:Act}{o:Oper}{tmps:Array Value}{d:Loc}
theorem KL {b bL len v}(h:bR C (.aj b bL len) v):∃r0 r cap,C.β b=I r0∧C.T (r0,bL,r,cap)∧len≤cap∧v=.slice (I ⟨r,0,Ga⟩) len cap:=by
 cases h with
 |aj _ _ _ r0 r cap hb ht hl=>exact⟨r0,r,cap,hb,ht,hl,rfl⟩
theorem q7s {b bL off v}(h:bR C (.dE b bL off) v):∃r0 r cap,C.β b=I r0∧C.T (r0,bL,r,cap)∧v=.pointer (I ⟨r,off,Ga⟩):=by
 cases h with
 |dE _ _ _ r0 r cap hb ht=>exact⟨r0,r,cap,hb,ht,rfl⟩
theorem qyl {t:TypeId}{x x' i fs f n b bL q}(he:br C env a.tmps)(ho:o.op=.fieldAddr t x i)(ht:P.underlying t=I (.struct fs))(hf:fs[i]?=I f)
  (hn:jp P f.type=I n) (Au:0<n) (h1:qv x=I x') (e1:qh env x'=I (.dE b bL q)):Val P C a o w (.dE b bL (q+f.offset)):=by
 obtain⟨r0,r,cap,hb,hT,hq⟩:=q7s (qx he h1 e1)
 refine⟨.pointer (I ⟨r,q+f.offset,Ga⟩),?_,.dE _ _ _ r0 r cap hb hT⟩
 simp[execOp,ho,Instr.fieldAt,run_underlying ht,hf,hq,Instr.sureAddr,fieldPlace,ym hn,Nat.pos_iff_ne_zero.1 Au,add_lit]
theorem qzk {t e:TypeId}{x i x' i' sz iv b bL len j}(he:br C env a.tmps)(ho:o.op=.indexAddr t x i)(ht:P.underlying t=I (.slice e))
  (hn:jp P e=I sz) (h1:qv x=I x') (h2:qv i=I i') (e1:qh env x'=I (.aj b bL len)) (e2:qh env i'=I iv) (hj:idx len iv=I j):Val P C a o w (.dE b bL (j*sz)):=by
 obtain⟨r0,r,cap,hb,hT,_,hq⟩:=KL (qx he h1 e1)
 obtain⟨k,rfl,bw⟩:=Ft hj
 have hi:=(qx he h2 e2).bU
 refine⟨.pointer (I ⟨r,j*sz,Ga⟩),?_,.dE _ _ _ r0 r cap hb hT⟩
 simp[execOp,ho,Instr.indexAt,run_underlying ht,hq,hi,asIntOf,ym hn,bw,add_lit]
theorem jcm {t e:TypeId}{x lo hi x' lA gg sz j b bL len}(he:br C env a.tmps)(ho:o.op=.slice t x lo hi Ga)(ht:P.underlying t=I (.slice e))
  (hn:jp P e=I sz) (h1:qv x=I x') (h2:mT lo=I lA) (h3:mT hi=I gg) (e1:qh env x'=I (.aj b bL len)) (b2:fF env len len gg=I j) (b1:fF env 0 j lA=I 0):Val P C a o w (.aj b bL j):=by
 obtain⟨r0,r,cap,hb,hT,hl,hq⟩:=KL (qx he h1 e1)
 obtain⟨iI,k1,k2⟩:=KB (P:=P) (isS:=true) he h2 h3 b2 b1 hl w
 refine⟨.slice (I ⟨r,0,Ga⟩) j cap,?_,.aj _ _ _ r0 r cap hb hT (by omega)⟩
 simp[execOp,ho,Instr.sliceAt,Instr.slice,run_underlying ht,hq,iI,ym hn,add_lit]
theorem jki {c x}{t e:TypeId}{x' b bL n}(he:br C env a.tmps)(ho:o.op=.call c)(ek:c.callee=.builtin .len)(eC:c.args.toList=[x])(eV:c.argTypes.toList=[t])
  (h1:qv x=I x') (e1:qh env x'=I (.aj b bL n)) (ht:P.underlying t=I (.slice e)):Val P C a o w (.int .i64 n):=by
 have ha:c.args=#[x]:=by apply G8;simpa using eC
 have lB:c.argTypes=#[t]:=by apply G8;simpa using eV
 refine⟨.int .i64 n,?_,.int _ _⟩
 simp only[execOp,ho,resolve,ek,ha,lB,Sem.run_bind,Sem.run_pure,Result.andThen_ok,invoke,builtin,Builtin.len_]
 obtain⟨r0,r,cap,_,_,_,hq⟩:=KL (qx he h1 e1)
 simp[run_underlying ht,hq,goInt]
theorem jf0 (m:az P C ω w0 C0 hp w){b bL q cap r0 sz xs}(hb:C.β b=I r0)(hT:C.T (r0,bL,q,cap))(gL:hp[b]?=I (.vec sz bL xs)):
  ∃vs,aW C (xs.flatMap AVal.flat) vs∧(∀(j:Nat) v,vs[j]?=I v→w.cell? ⟨q,j,Ga⟩=I v∧v.oneCell'=Gd)∧eH C.K w q sz xs cap:=by
 obtain⟨q',kK,k1,k2,k3,k4,_⟩:=m.box b _ r0 gL hb
 have heq:=(k2 _ hT rfl).2 rfl
 simp only[Prod.mk.injEq]at heq
 obtain⟨rfl,rfl⟩:=heq
 obtain⟨cells,t,vs,g1,g2,g3,g4,g5,g6,g7⟩:=id k3
 refine⟨vs,aI.imp (C:=.bY C.K) (C':=C) ⟨fun _ _ _ h=>h,fun b r h=>by cases h⟩ g5 (fun _ h=>h.elim),fun j v hj=>⟨?_,g7 v (Hd hj)⟩,k3⟩
 unfold World.cell?
 rw[g1]
 simp only[Jp,Hb,if_false]
 exact g6 j v hj
theorem q0d (m:az P C ω w0 C0 hp w)(he:br C env a.tmps){t:TypeId}{x x' n ag b bL q sz xs v}(ho:o.op=.load t x)(hg:yr P t=I ag)(hn:jp P t=I n)(h1:qv x=I x')(e1:qh env x'=I (.dE b bL q))
  (gL:hp[b]?=I (.vec sz bL xs)) (hl:q+n≤(xs.flatMap AVal.flat).length) (hv:(ag=Gd∧v=.agg (((xs.flatMap AVal.flat).drop q).take n))∨(ag=Gb∧((xs.flatMap AVal.flat).drop q).take n=[v])):Val P C a o w v:=by
 obtain⟨r0,r,cap,hb,hT,hq⟩:=q7s (qx he h1 e1)
 obtain⟨vs,k1,k2,_⟩:=jf0 m hb hT gL
 have k3:aW C (((xs.flatMap AVal.flat).drop q).take n) ((vs.drop q).take n):=(k1.drop q).take n
 have k4:∀j u,((vs.drop q).take n)[j]?=I u→w.cell? ⟨r,q+j,Ga⟩=I u:=by
  intro j u hj
  rw[T4]at hj
  split at hj
  ·rw[Sb]at hj;exact(k2 _ _ hj).1
  ·cases hj
 have k5:((vs.drop q).take n).length=n:=by rw[k3.length,X6,List.length_drop];omega
 rcases hv with⟨rfl,rfl⟩|⟨rfl,hv⟩
 ·exact⟨.agg ⟨(vs.drop q).take n⟩,by simp[execOp,ho,Instr.loadAt,hq,Instr.sureAddr,FE hg hn k5 k4],.agg _ _ k3⟩
 ·rw[hv]at k3
  generalize hgen:(vs.drop q).take n=us at k3 k4 k5
  cases k3 with
  |cons _ _ u us hu kG=>
   cases kG
   refine⟨u,?_,hu⟩
   have:=FF (P:=P) hg (by simpa using k4 0 u rfl)
   simp[execOp,ho,Instr.loadAt,hq,Instr.sureAddr,this]
def aM.tok (C:aM)(x:Nat×Nat×Nat×Nat):aM:={ C with T:=fun q=>C.T q∨q=x }
theorem aM.gM {x}:C.le (C.tok x):=⟨fun _ _ _ h=>h,fun _ _ h=>h,rfl,fun _ h=>h,fun _ h=>.inl h⟩
theorem aO.tok {x B ℓ y v}(h:aO C ω w B ℓ y v):aO (C.tok x) ω w B ℓ y v:=by
 unfold aO at *
 exact h
theorem aq.tok {x B}(e:aq C ω w B env tmps):aq (C.tok x) ω w B env tmps:=
 fun s y hy=>let ⟨v,h1,h2,h3⟩:=e s y hy; ⟨v,h1,aI.mono aM.gM h2,fun h=>(h3 h).tok⟩
theorem az.qS (m:az P C ω w0 C0 hp w){b r sz bL q cap xs}(hβ:C.β b=I r)(hT:∀x,C.T x→x.1=r→x.2.1<bL)(hv:eH C.K w q sz xs cap)(ho:q=r∨xY C ω w w0.heap.size b q xs.length cap)(hr:∃cs t,w.heap[r]?=I (.cells cs t (0,0))):
  az P (C.tok (r,bL,q,cap)) ω w0 C0 (hp.set b (.vec sz bL xs)) w:=by
 have bw:=m.lt b r hβ
 refine { m with lt:=fun k p hk=>by rw[Qw];exact m.lt k p hk,grown:=aM.le_trans m.grown aM.gM,box:=?_,iF:=?_ }
 ·intro k y p hy hk
  by_cases kI:k=b
  ·subst kI
   rw[G9 bw.2]at hy
   cases hy
   obtain rfl:r=p:=by have:C.β k=I p:=hk;rw[hβ]at this;exact I.inj this
   refine⟨q,cap,.inr rfl,fun x hx hxr=>?_,hv,ho.imp id fun h=>h.tok,hr⟩
   rcases hx with hx|rfl
   ·have:=hT x hx hxr
    exact⟨by omega,fun h=>by omega⟩
   ·exact⟨Gn _,fun _=>rfl⟩
  ·rw[Ik (Sd kI)]at hy
   have qL:p≠r:=fun h=>kI (m.inj k b p hk (h▸hβ))
   refine(m.box k y p hy hk).mono aM.gM (fun j z u h=>h.tok) (fun x hx hxp=>?_)
   rcases hx with hx|rfl
   ·exact hx
   ·exact absurd hxp.symm qL
 ·intro x hx
  rcases hx with hx|rfl
  ·exact m.iF x hx
  ·exact bw.1
theorem az.qT (m:az P C ω w0 C0 hp w){b r}(hβ:C.β b=I r)(hr:∃cs t,w.heap[r]?=I (.cells cs t (0,0))):az P C ω w0 C0 (hp.set b .dead) w:=
 m.ec (ω':=ω) (w':=w) (r:=r) (b:=b) ⟨rfl,fun _ _=>rfl,fun c t fr h=>by obtain⟨cs,t',h'⟩:=hr;rw[h']at h;cases h;rfl,rfl,rfl⟩ hβ .dead (fun _ _ _ _ _ h=>h) hr
theorem az.AH (m:az P C ω w0 C0 hp w){b q n cap cs}(hd:hp[b]?=I .dead)(ho:xY C ω w w0.heap.size b q n cap)(hu:gI w w' q cs):az P C ω w0 C0 hp w':=by
 obtain⟨h1,h2,h3,_,_,⟨cells,elem,h5,_⟩,h7⟩:=ho
 simp only at h1 h2 h3 h5 h7
 have hK:∀o,C.K q o=Ga:=fun o=>h7 o (by simp)
 refine { base:=m.base,know:=?_,dw:=m.dw,apart:=m.apart,inj:=m.inj,lt:=?_,size:=?_,frame:=?_,ft:=?_,os:=hu.os.trans m.os,output:=hu.output.trans m.output,fresh:=m.fresh,grown:=m.grown,old:=m.old,box:=?_,iF:=fun x hx=>by rw[hu.size];exact m.iF x hx }
 ·intro k p v hk
  have bI:k≠q:=fun h=>by rw[h,hK p]at hk;cases hk
  have hc:=m.know _ _ _ hk
  simp only[World.cell?]at hc ⊢
  rw[hu.other k bI];exact hc
 ·intro k p hk;rw[hu.size];exact m.lt k p hk
 ·rw[hu.size];exact m.size
 ·intro k hk hn hw
  have bI:k≠q:=fun h=>by
   subst h
   rcases h2 with h|h
   ·omega
   ·rw[m.grown.w]at h;exact hw h
  rw[hu.other k bI];exact m.frame k hk hn hw
 ·intro k hk
  have bI:k≠q:=fun h=>by
   subst h
   have:=m.ft k hk
   rw[h5]at this;cases this
  rw[hu.other k bI];exact m.ft k hk
 ·intro k x p hx hk
  have bI:p≠q:=fun h=>h3 k (h▸hk)
  by_cases kI:k=b
  ·subst kI
   rw[hd]at hx
   cases hx
   obtain⟨eN,t',hg⟩:=m.box k .dead p hd hk
   exact⟨eN,t',by rw[hu.other p bI];exact hg⟩
  ·exact(m.box k x p hx hk).iN hu bI (fun j=>by rw[h1];intro h;injection h with h;injection h with h _;exact kI h.symm)
theorem qou {sz}:∀ {xs:List AVal} (n:Nat),(∀x∈xs,x.flat.length=sz)→(xs.take n).flatMap AVal.flat=(xs.flatMap AVal.flat).take (n*sz)
 | [],n,_=>by simp
 |x::xs,0,_=>by simp
 |x::xs,n+1,h=>by
  have hx:=h x (T5 ..)
  have h1:x.flat.take ((n+1)*sz)=x.flat:=List.take_of_length_le (by rw[hx,T6];omega)
  have h2:(n+1)*sz-sz=n*sz:=by rw[T6];omega
  rw[List.take_succ_cons,Lh,Lh,qou n (fun y hy=>h y (Tn _ hy)),List.take_append,hx,h1,h2]
theorem eH.grown {K q q' sz len cap kK xs ys news eP dT}{t':TypeId}(h:eH K w q sz xs cap)(hl:len≤xs.length)(de:aW (.bY K) (ys.flatMap AVal.flat) news)(fO:∀y∈ys,y.flat.length=sz)(df:∀v∈news,v.oneCell'=Gd)
  (hold:∀vs:List Value,aW (.bY K) (xs.flatMap AVal.flat) vs→(∀(j:Nat) v,vs[j]?=I v→w.cell? ⟨q,j,Ga⟩=I v)→eP=vs.take (len*sz)) (hcap:len+ys.length≤kK) (cG:kK*sz≤dT.size)
  (hg:w'.heap[q']?=I (.cells dT t' (0,0))) (hc:∀(j:Nat) v,(eP++news)[j]?=I v→dT[j]?=I v):eH K w' q' sz (xs.take len++ys) kK:=by
 obtain⟨cells,t,vs,g1,g2,g3,g4,g5,g6,g7⟩:=h
 have ho:eP=vs.take (len*sz):=hold vs g5 (fun j v hj=>by
  unfold World.cell?
  rw[g1]
  simp only[Jp,Hb,if_false]
  exact g6 j v hj)
 refine⟨dT,t',eP++news,hg,by rw[Rz,X6];omega,cG,?_,?_,hc,?_⟩
 ·intro x hx
  rcases Jq.1 hx with hx|hx
  ·exact g4 x (R7 hx)
  ·exact fO x hx
 ·rw[T3,qou len g4,ho]
  exact(g5.take _).append de
 ·intro v hv
  rcases Jq.1 hv with hv|hv
  ·rw[ho]at hv;exact g7 v (R7 hv)
  ·exact df v hv
theorem aW.pure {xs vs}(h:aW C xs vs)(hb:qy 0 xs=Gd):aW (.bY C.K) xs vs:=
 aI.shift (C:=C) (C':=.bY C.K) 0 (fun _ _ _ h=>h) (fun b r bw=>by omega) h hb
theorem Rc {n}:∀ {xs:List AVal},qy n xs=Gd→qy n (xs.flatMap AVal.flat)=Gd
 | [],_=>rfl
 |x::xs,h=>by
  simp only[qy,Gy]at h
  have key:∀(ys zs:List AVal),qy n ys=Gd→qy n zs=Gd→qy n (ys++zs)=Gd:=by
   intro ys zs
   induction ys with
   |nil=>intro _ h;exact h
   |cons y ys ih=>intro h1 h2;simp only[qy,Gy,List.cons_append]at h1 ⊢;exact⟨h1.1,ih h1.2 h2⟩
  rw[Lh]
  exact key _ _ (by rw[Kt];exact h.1) (Rc h.2)
theorem aW.fun {xs}:∀ {vs ws:List Value},aW C xs vs→aW C xs ws→vs.length=ws.length:=fun h k=>by rw[h.length,k.length]
theorem ji9 (m:az P C ω w0 C0 hp w)(e:aq C ω w w0.heap.size env a.tmps){c}{t u el:TypeId}{ut:TypeDesc}{x y x' y' sz b bx bL len xs ys vy h'}
  (ho:o.op=.call c) (ek:c.callee=.builtin .append) (eC:c.args.toList=[x,y]) (eV:c.argTypes.toList=[t,u]) (ht:P.underlying t=I (.slice el)) (hu:P.underlying u=I ut) (jL:Ai ut=Gd)
  (hn:jp P el=I sz) (hb:nS P el=I b) (h1:qv x=I x') (h2:qv y=I y') (e1:qh env x'=I (.aj bx bL len)) (e2:qh env y'=I vy) (cX:zw sz vy=I ys)
  (gL:hp[bx]?=I (.vec sz bL xs)) (hle:len≤xs.length) (hlen:len+ys.length≤1073741824) (jK:b≤4096) (Rf:qy 0 ys=Gd) (hzero:∃z,yw P el=I z∧z.length=sz)
  (bF:jt hp bx (.vec sz (bL+1) (xs.take len++ys))=I h'):
  ∃v w',(execOp a.eval o).run P w=.ok (.value v) w'∧zk P C0 w0 C a.tmps d env ⟨.aj bx (bL+1) (len+ys.length),Gb,Ga,h'⟩ v w':=by
 have gj:h'=hp.set bx (.vec sz (bL+1) (xs.take len++ys)):=by
  unfold jt at bF
  cases wu:Yj bx hp.length with
  |false=>simp[wu]at bF
  |true=>simpa[wu]using bF.symm
 subst gj
 have ha:c.args=#[x,y]:=by apply G8;simpa using eC
 have lB:c.argTypes=#[t,u]:=by apply G8;simpa using eV
 obtain⟨i,hi,qM⟩:∃i,P.info? el=I i∧i.bytes=b:=by
  unfold nS at hb
  cases hi:P.info? el with
  |none=>simp[hi]at hb
  |some i=>exact⟨i,rfl,by simpa[hi]using hb⟩
 have kH:i.size=sz:=by
  unfold jp at hn;rw[hi]at hn;simpa using hn
 obtain⟨z,hz,AE⟩:=hzero
 obtain⟨zv,nc⟩:∃zv,i.zero=I zv:=by
  unfold yw at hz;rw[hi]at hz
  cases hq:i.zero with
  |none=>simp[hq]at hz
  |some v=>exact⟨v,rfl⟩
 have ry:=qx e.cr h2 e2
 obtain⟨news,hs,de,fO,df⟩:=KG m hu jL cX ry
 have qU:aW (.bY C.K) (ys.flatMap AVal.flat) news:=de.pure (Rc Rf)
 have fg:∀ {z:Value} {w':World},(Builtin.append_ #[t,u] o.type #[a.eval x,a.eval y]).run P w=.ok z w'→(execOp a.eval o).run P w=.ok (.value z) w':=by
  intro z w' h
  simp[execOp,ho,resolve,ek,ha,lB,invoke,builtin,h]
 have nf:news.length=ys.length*sz:=by rw[de.length,yn ys fO]
 obtain⟨r0,q,cap,hβ,hT,hlc,hx⟩:=KL (qx e.cr h1 e1)
 obtain⟨q',kK,k1,k2,k3,k4,k5⟩:=m.box bx _ r0 gL hβ
 have heq:=(k2 _ hT rfl).2 rfl
 simp only[Prod.mk.injEq]at heq
 obtain⟨rfl,rfl⟩:=heq
 have qV:∀x,C.T x→x.1=r0→x.2.1<bL+1:=fun x hx hr=>by have:=(k2 x hx hr).1;omega
 have wu:=(m.lt bx r0 hβ).2
 -- the old cells
 obtain⟨cells,te,vs,g1,g2,g3,g4,g5,g6,g7⟩:=id k3
 have wm:vs.length=xs.length*sz:=by rw[g5.length,yn xs g4]
 have hvle:xs.length*sz≤cap*sz:=Gx _ g2
 have hlle:len*sz≤xs.length*sz:=Gx _ hle
 have hold:∀qW:List Value,aW (.bY C.K) (xs.flatMap AVal.flat) qW→(∀(j:Nat) v,qW[j]?=I v→w.cell? ⟨q,j,Ga⟩=I v)→vs.take (len*sz)=qW.take (len*sz):=by
  intro qW h3 h4
  have hl':qW.length=vs.length:=by rw[h3.length,g5.length]
  have:qW=vs:=by
   apply Sc
   intro j
   by_cases hj:j<vs.length
   ·have h5:=h4 j _ (Gr (by omega))
    have h6:=g6 j _ (Gr hj)
    unfold World.cell? at h5
    rw[g1]at h5
    simp only[Jp,Hb,if_false]at h5
    rw[Gr hj,Gr (by omega),←h5,h6]
   ·rw[Lg (by omega),Lg (by omega)]
  rw[this]
 by_cases eJ:len+ys.length≤cap
 ·-- there is room
  have gJ:(len+ys.length)*sz≤cap*sz:=Gx _ eJ
  rw[Me]at gJ
  have bH:=QW (P:=P) (w:=w) (ty:=o.type) ht hi q 0 len cap (a.eval y) ys.length news (kH▸hs) eJ g1 (by rw[kH,nf];omega)
  rw[←hx,kH]at bH
  have pA:=Fw g1 (cells.toList.take (0+len*sz)++news++cells.toList.drop (0+len*sz+news.length)).toArray
  have lG:=setRow_heap w q cells (cells.toList.take (0+len*sz)++news++cells.toList.drop (0+len*sz+news.length)).toArray te (0,0) g1
  generalize QV:w.setRow q (cells.toList.take (0+len*sz)++news++cells.toList.drop (0+len*sz+news.length)).toArray=w' at bH pA lG
  have AJ:eH C.K w' q sz (xs.take len++ys) cap:=by
   refine eH.grown (eP:=vs.take (len*sz)) k3 hle qU fO df hold eJ (by simp;omega) lG ?_
   intro j v hj
   rw[Gs]
   have eV:(cells.toList.take (0+len*sz)).length=len*sz:=by simp;omega
   have lH:(vs.take (len*sz)).length=len*sz:=by simp;omega
   by_cases DE:j<len*sz
   ·rw[Ig,Gi (by rw[eV];exact DE)]
    rw[Gi (by rw[lH];exact DE),Hc DE]at hj
    rw[Hc (by omega),Gq]
    exact g6 j v hj
   ·rw[Gm (by rw[lH];omega),lH]at hj
    have hjn:j-len*sz<news.length:=(Gj.1 hj).1
    rw[Ig,Gm (by rw[eV];omega),eV,Gi hjn]
    exact hj
  have fin:∀(m1:az P C ω w0 C0 (hp.set bx .dead) w') (e1:aq C ω w' w0.heap.size env a.tmps) (FD:q=r0∨xY C ω w' w0.heap.size bx q (xs.take len++ys).length cap) (wv:∃cs t,w'.heap[r0]?=I (.cells cs t (0,0))),
    zk P C0 w0 C a.tmps d env ⟨.aj bx (bL+1) (len+ys.length),Gb,Ga,hp.set bx (.vec sz (bL+1) (xs.take len++ys))⟩ (.slice (I ⟨q,0,Ga⟩) (len+ys.length) cap) w':=by
   intro m1 e1 FD wv
   have m2:=m1.qS (b:=bx) (sz:=sz) (bL:=bL+1) (q:=q) (cap:=cap) (xs:=xs.take len++ys) hβ qV AJ FD wv
   rw[Uf]at m2
   exact⟨_,ω,aM.gM,m2,e1.tok,.aj _ _ _ r0 q cap hβ (.inr rfl) eJ,by simp⟩
  refine⟨_,_,fg bH,?_⟩
  rcases k4 with rfl|k4
  ·refine fin ?_ (e.dP pA.iN hβ) (.inl rfl) ⟨_,_,lG⟩
   exact m.ec pA.iN hβ .dead (fun _ _ _ _ _ h=>h) ⟨_,_,lG⟩
  ·have hqr:q≠r0:=fun h=>k4.2.2.1 bx (by rw[hβ];exact congrArg I h.symm)
   have md:=m.qT hβ k5
   have m1:=md.AH (by rw[G9 wu]) k4 pA
   obtain⟨Rg,t5,k5⟩:=k5
   refine fin m1 ?_ (.inr ?_) ⟨Rg,t5,by rw[pA.other _ (Sd hqr)];exact k5⟩
   ·exact fun s y hy=>let ⟨v,j1,j2,j3⟩:=e s y hy; ⟨v,j1,j2,fun h=>(j3 h).iN pA (by rw[k4.1];simp)⟩
   ·obtain⟨j1,j2,j3,j4,j5,_,j7⟩:=k4
    exact⟨j1,j2,j3,j4,j5,⟨_,te,lG,by simp,fun _ _ _ h=>by simp at h⟩,fun o ho=>j7 o (by simp)⟩
 ·-- there is none
  have cG:Builtin.nextslicecap (len+ys.length) cap*i.bytes≤281474976710656:=growslice_fits (by omega) (by
   rw[qM]
   exact If (Nz hlen jK) (by decide))
  have FM:(vs.take (len*sz)).length=len*i.size:=by rw[kH];simp;omega
  have bH:=run_append_grow_src w t u o.type el i zv ht hi nc (I ⟨q,0,Ga⟩) len cap (vs.take (len*sz)) (run_firstCells_some _ _ _ _ _ _ _ FM (fun j v hj=>by
   rw[T4]at hj
   split at hj
   ·have h3:=g6 j v hj
    have h4:w.cell? ⟨q,j,Ga⟩=I v:=by
     unfold World.cell?
     rw[g1]
     simp only[Jp,Hb,if_false]
     exact h3
    rw[add_lit,Ul]
    exact h4
   ·cases hj)) (a.eval y) ys.length news (kH▸hs) (by omega) (by omega) cG
  rw[←hx]at bH
  have uZ:=grownCap_ge w (len+ys.length) cap el
  have iq:zv.cells.size=sz:=by
   obtain⟨_,zv',lC,FB,_⟩:=uX (C:=C) hz
   have:=lC w
   simp[zeroValue,typeInfo,hi,nc]at this
   subst this
   have:=FB.length
   simp at this
   omega
  generalize eQ:((vs.take (len*sz)++news).toArray++Builtin.zeroCells zv.cells (grownCap w (len+ys.length) cap el-(len+ys.length)))=dT at bH
  generalize Rh:grownCap w (len+ys.length) cap el=gc at bH uZ eQ
  have iP:Ext w w.drew:=Ext.drew w
  have Ri:Ext w.drew (w.drew.alloc (.cells dT el)):=Ext.alloc _ _ (fun c t fr h=>by cases h;rfl)
  have FN:(w.drew.alloc (.cells dT el)).heap[w.drew.heap.size]?=I (.cells dT el (0,0)):=by rw[wi,if_pos rfl]
  have AJ:eH C.K (w.drew.alloc (.cells dT el)) w.drew.heap.size sz (xs.take len++ys) gc:=by
   refine eH.grown (eP:=vs.take (len*sz)) k3 hle qU fO df hold uZ ?_ FN ?_
   ·rw[←eQ]
    have lH:(vs.take (len*sz)).length=len*sz:=by simp;omega
    simp only[Se,R6,Rz,lH,nf]
    have:(Builtin.zeroCells zv.cells (gc-(len+ys.length))).size=(gc-(len+ys.length))*sz:=by simp[Builtin.zeroCells,iq]
    rw[this,←Me,←Me]
    exact Gx _ (by omega)
   ·intro j v hj
    rw[←eQ,He (by simpa using(Gj.1 hj).1)]
    simpa using hj
  have md:=((m.qT hβ k5).ext iP).kF w.drew.heap.size (.cell bx 0) (Gn _)
  have m1:=md.ext Ri
  obtain⟨Rg,t5,k5⟩:=k5
  have m2:=m1.qS (b:=bx) (sz:=sz) (bL:=bL+1) (q:=w.drew.heap.size) (cap:=gc) (xs:=xs.take len++ys) hβ qV AJ (.inr ⟨by simp[cQ],.inl (If m.size iP.size),fun k hk=>by have:=(m.lt k _ hk).1;simp at this,rfl,rfl,⟨dT,el,FN,by simp,fun _ _ _ h=>by simp at h⟩,fun o _=>m.jU _ iP.size o⟩) ⟨Rg,t5,(iP.trans Ri).get k5⟩
  rw[Uf]at m2
  refine⟨_,_,fg bH,_,_,aM.gM,m2,(((e.ext iP).fresh (Gn _)).ext Ri).tok,.aj _ _ _ r0 _ gc hβ (.inr rfl) (by omega),by simp⟩
theorem jd6 (m:az P C ω w0 C0 hp w)(e:aq C ω w w0.heap.size env tmps){bx sz cap xs cells}{te:TypeId}{vs}(hh:hp[bx]?=I .hole)(KM:aW C (xs.flatMap AVal.flat) vs)(AK:qy 0 xs=Gd)(da:∀x∈xs,x.flat.length=sz)
  (df:∀v∈vs,v.oneCell'=Gd) (hc:∀(j:Nat) v,vs[j]?=I v→cells[j]?=I v) (hcap:xs.length≤cap) (cG:cap*sz≤cells.size):
  zk P C0 w0 C tmps d env ⟨.aj bx 0 xs.length,Gb,Ga,hp.set bx (.vec sz 0 xs)⟩ (.slice (I ⟨w.heap.size,0,Ga⟩) xs.length cap) (w.alloc (.cells cells te)):=by
 obtain⟨m1,e1,AL⟩:=m.aS e hh (.cells cells te) (fun c t fr h=>by cases h;rfl) .dead (fun C' ω' w' _ hg=>⟨cells,te,hg⟩)
 have FN:(w.alloc (.cells cells te)).heap[w.heap.size]?=I (.cells cells te (0,0)):=by rw[wi,if_pos rfl]
 have hβ:(C.box bx w.heap.size).β bx=I w.heap.size:=by simp[aM.box]
 have m2:=m1.qS (b:=bx) (r:=w.heap.size) (sz:=sz) (bL:=0) (q:=w.heap.size) (cap:=cap) (xs:=xs) hβ (fun x hx hr=>by have:=m.iF x hx;omega) ⟨cells,te,vs,FN,hcap,cG,da,KM.pure (Rc AK),hc,df⟩ (.inl rfl) ⟨cells,te,FN⟩
 rw[Uf]at m2
 exact⟨_,ω,aM.le_trans AL aM.gM,m2,e1.tok,.aj _ _ _ w.heap.size w.heap.size cap hβ (.inr rfl) hcap,by simp⟩
theorem jlz (m:az P C ω w0 C0 hp w)(e:aq C ω w w0.heap.size env a.tmps){c}{t u el:TypeId}{ut:TypeDesc}{x y x' y' sz Rj b h0 rk ys vy h'}
  (ho:o.op=.call c) (ek:c.callee=.builtin .append) (eC:c.args.toList=[x,y]) (eV:c.argTypes.toList=[t,u]) (ht:P.underlying t=I (.slice el)) (hu:P.underlying u=I ut) (jL:Ai ut=Gd)
  (hn:jp P el=I sz) (hb:nS P el=I b) (h1:qv x=I x') (h2:qv y=I y') (e1:qh env x'=I (.list Gd Rj [])) (e2:qh env y'=I vy) (cX:zw sz vy=I ys)
  (hlen:ys.length≤1073741824) (bI:ys≠[]) (jK:b≤4096) (Rf:qy 0 ys=Gd) (hzero:∃z,yw P el=I z∧z.length=sz) (dh:aS h0 hp rk (.vec sz 0 ys)=I h'):
  ∃v w',(execOp a.eval o).run P w=.ok (.value v) w'∧zk P C0 w0 C a.tmps d env ⟨.aj (h0+rk) 0 ys.length,Gb,Ga,h'⟩ v w':=by
 obtain⟨hh,rfl⟩:=y6 dh
 have ha:c.args=#[x,y]:=by apply G8;simpa using eC
 have lB:c.argTypes=#[t,u]:=by apply G8;simpa using eV
 obtain⟨i,hi,qM⟩:∃i,P.info? el=I i∧i.bytes=b:=by
  unfold nS at hb
  cases hi:P.info? el with
  |none=>simp[hi]at hb
  |some i=>exact⟨i,rfl,by simpa[hi]using hb⟩
 have kH:i.size=sz:=by
  unfold jp at hn;rw[hi]at hn;simpa using hn
 obtain⟨z,hz,AE⟩:=hzero
 obtain⟨zv,nc⟩:∃zv,i.zero=I zv:=by
  unfold yw at hz;rw[hi]at hz
  cases hq:i.zero with
  |none=>simp[hq]at hz
  |some v=>exact⟨v,rfl⟩
 have ry:=qx e.cr h2 e2
 obtain⟨news,hs,de,fO,df⟩:=KG m hu jL cX ry
 have fg:∀ {z:Value} {w':World},(Builtin.append_ #[t,u] o.type #[a.eval x,a.eval y]).run P w=.ok z w'→(execOp a.eval o).run P w=.ok (.value z) w':=by
  intro z w' h
  simp[execOp,ho,resolve,ek,ha,lB,invoke,builtin,h]
 have nf:news.length=ys.length*sz:=by rw[de.length,yn ys fO]
 have hx:a.eval x=.slice Ga 0 0:=by
  rcases(qx e.cr h1 e1).dc with⟨_,_,hx⟩|⟨hf,_⟩|⟨hf,_⟩
  ·exact hx
  ·cases hf
  ·cases hf
 have gN:0<ys.length:=List.length_pos_iff.2 bI
 have cG:Builtin.nextslicecap (0+ys.length) 0*i.bytes≤281474976710656:=growslice_fits (by omega) (by
  rw[qM]
  exact If (Nz (by omega) jK) (by decide:2^30*4096≤_))
 have bH:=run_append_grow_src w t u o.type el i zv ht hi nc Ga 0 0 [] (run_firstCells_none _ _ _ _ _) (a.eval y) ys.length news (kH▸hs) (by omega) (by omega) cG
 rw[←hx]at bH
 have uZ:=grownCap_ge w (0+ys.length) 0 el
 have iq:zv.cells.size=sz:=by
  obtain⟨_,zv',lC,FB,_⟩:=uX (C:=C) hz
  have:=lC w
  simp[zeroValue,typeInfo,hi,nc]at this
  subst this
  have:=FB.length
  simp at this
  omega
 generalize eQ:(([]++news).toArray++Builtin.zeroCells zv.cells (grownCap w (0+ys.length) 0 el-(0+ys.length)))=dT at bH
 generalize Rh:grownCap w (0+ys.length) 0 el=gc at bH uZ eQ
 have iP:Ext w w.drew:=Ext.drew w
 have:=jd6 (d:=d) (tmps:=a.tmps) (m.ext iP) (e.ext iP) (te:=el) (cap:=gc) (sz:=sz) (cells:=dT) hh de Rf fO df (fun j v hj=>by
  rw[←eQ,R9,He (by simpa using(Gj.1 hj).1)]
  simpa using hj) (by omega) (by
   rw[←eQ]
   have h5:(Builtin.zeroCells zv.cells (gc-(0+ys.length))).size=(gc-(0+ys.length))*sz:=by simp[Builtin.zeroCells,iq]
   simp only[Se,R6,R9,nf,h5]
   rw[←Me]
   exact Gx _ (by omega))
 rw[Ul]at bH
 exact⟨_,_,fg bH,this⟩
theorem jlt (m:az P C ω w0 C0 hp w)(e:aq C ω w w0.heap.size env a.tmps){t el:TypeId}{ps len sz h0 rk z fU qs xs h'}
  (ho:o.op=.buildSlice t len ps) (ht:P.underlying t=I (.slice el)) (hn:jp P el=I sz) (hz:yw P el=I z) (hlen:sz*len≤65536) (Q7:0<sz) (iq:z.length=sz)
  (mr:xV ps.toList=I fU) (hq:yg env sz fU=I qs) (hx:lx (Gh len (uW sz z)) qs=I xs) (AK:qy 0 xs=Gd) (dh:aS h0 hp rk (.vec sz 0 xs)=I h'):
  ∃v w',(execOp a.eval o).run P w=.ok (.value v) w'∧zk P C0 w0 C a.tmps d env ⟨.aj (h0+rk) 0 xs.length,Gb,Ga,h'⟩ v w':=by
 obtain⟨hh,rfl⟩:=y6 dh
 obtain⟨ds,bH,hdr,h1,mY,jW,cG⟩:=qlv (C:=C) (ω:=ω) (w:=w) (w0:=w0) e ho ht hn hz hlen Q7 iq mr hq hx
 refine⟨_,_,bH,?_⟩
 have fe:=jd6 (d:=d) (tmps:=a.tmps) m e (te:=el) (cap:=len) (sz:=sz) (cells:=ds) hh hdr AK mY h1 (by intro j v h;simpa using h) (by omega) cG
 rw[jW]at fe ⊢
 exact fe
theorem q90 (m:az P C ω w0 C0 hp w)(e:aq C ω w w0.heap.size env a.tmps){t:TypeId}{z}(ho:o.op=.alloc t)(hz:yw P t=I z):
  ∃v w',(execOp a.eval o).run P w=.ok (.value v) w'∧zk P C0 w0 C a.tmps d env ⟨.db z.length,Gd,Ga,hp⟩ v w':=by
 obtain⟨_,zv,lj,cS,lC⟩:=uX (C:=C) hz
 have hx:Ext w (w.alloc (.cells zv.cells t)):=Ext.alloc w _ (fun c t fr h=>by cases h;rfl)
 have iq:zv.cells.size=z.length:=by have:=cS.length;simpa using this
 refine⟨.pointer (I ⟨w.heap.size,0,Ga⟩),_,by simp[execOp,ho,Instr.alloc,lj,newVar,newRow],C,Abs.cQ ω w.heap.size d,aM.le_refl C,(m.kF _ d (Gn _)).ext hx,(e.fresh (Gn _)).ext hx,.db _ _,fun _=>?_⟩
 refine⟨by simp[Abs.cQ],.inl m.size,fun b hb=>by have:=(m.lt b _ hb).1;simp at this,rfl,rfl,⟨zv.cells,t,by rw[wi,if_pos rfl],by simp;omega,fun _ _ _ h=>by simp at h⟩,fun o _=>m.jU _ (Gn _) o⟩
theorem q92 (m:az P C ω w0 C0 hp w)(e:aq C ω w w0.heap.size env a.tmps){t:TypeId}{x y y' n s v}(ho:o.op=.store t x y)(hn:jp P t=I n)
  (h1:qv x=I (.tmp s)) (h2:qv y=I y') (hl:ji s env=I (.db n,Gd)) (e2:qh env y'=I v) (wm:v.flat.length=n) (hs:v.flat.all qk=Gd):
  ∃w' C' ω',(execOp a.eval o).run P w=.ok .skip w'∧C.le C'∧az P C' ω' w0 C0 hp w'∧aq C' ω' w' w0.heap.size ((s,.ai v,Gb)::env) a.tmps:=by
 obtain⟨cv,c1,c2,c3⟩:=e s _ hl
 have fI:a.eval x=cv:=by
  cases x with
  |tmp t'=>
   simp only[qv]at h1
   cases h1
   simp[Act.eval,Gt,c1]
  |const u=>simp only[qv]at h1;split at h1<;>cases h1
  |func f=>simp[qv]at h1
  |global g=>simp[qv]at h1
 cases c2 with
 |db _ ad=>
  obtain⟨hω,hB,hβ,mg,wk,⟨cells,te,hg,cG,_⟩,hK⟩:=c3 rfl
  obtain⟨r,q,sp⟩:=ad
  simp only at hω hB hβ mg wk hg cG hK
  subst mg
  subst wk
  have ry:=qx e.cr h2 e2
  have hc:=Av ry hs
  have df:=Ax hc (fun y hy=>Sf.1 hs y hy)
  have dY:(a.eval y).cells.toList.length=n:=by rw[hc.length,wm]
  have bH:=Q5 (P:=P) (t:=t) (off:=0) hn dY hg (by omega) df
  obtain⟨m',e',hle⟩:=qvn (d:=.slot s) m e (r:=r) (q:=0) (news:=(a.eval y).cells.toList) hω hB hβ hg (by omega) (fun o _=>hK o (by simp)) df
  refine⟨_,_,_,?_,hle,m',?_⟩
  ·simp only[execOp,ho,Instr.storeAt,Sem.run_bind,fI,Instr.sureAddr,Sem.run_pure,Result.andThen_ok,bH]
  ·intro t' z hz
   by_cases lF:t'=s
   ·subst lF
    simp only[ji,St,cond_true,I.injEq]at hz
    subst hz
    exact⟨_,c1,.ai _ _ _ (aM.fo (fun o _=>hK o (by simp)) hc),by simp⟩
   ·have hb:G7 s t'=Gb:=by
     cases hb:G7 s t' with
     |false=>rfl
     |true=>exact absurd (Ge hb).symm lF
    simp only[ji,hb,cond_false]at hz
    refine e' t' z ?_
    simp only[yb,hl,ji,hb,cond_false]
    exact hz
end
section
variable {P:Program}{C C0:aM}{ω:Nat→Option Loc}{w w' w0:World}{hp:qi}{env:Env}{a:Act}{o:Oper}{tmps:Array Value}{d:Loc}
def ke (w:World)(r:Nat)(x:Obj):World:={ w with heap:=w.heap.setIfInBounds r x }
theorem FO {r x}(h:r<w.heap.size):(ke w r x).heap[r]?=I x:=by
 show(w.heap.setIfInBounds r x)[r]?=_
 rw[Array.getElem?_setIfInBounds_self_of_lt h]
theorem DF {r x}(h:r<w.heap.size)(hx:∀c t fr,x=.cells c t fr→fr=(0,0)):ng w (ke w r x) r where
 size:=by simp[ke]
 other k hk:=by
  show(w.heap.setIfInBounds r x)[k]?=_
  rw[Array.getElem?_setIfInBounds_ne (Sd hk)]
 fz c t fr hc:=by
  rw[FO h]at hc
  exact hx c t fr (I.inj hc)
 os:=rfl
 output:=rfl
theorem yC {r x y}(h:w.heap[r]?=I y)(hy:∀c t f,y≠.cells c t f):(setObj r x).run P w=.ok () (ke w r x):=by
 cases y with
 |cells c t f=>exact absurd rfl (hy c t f)
 |_=>simp[setObj,Sem.run,ke,h]
theorem pB {r y}(h:w.heap[r]?=I y)(hy:∀c t f,y≠.cells c t f):(getObj r).run P w=.ok y w:=by
 cases y with
 |cells c t f=>exact absurd rfl (hy c t f)
 |_=>simp[getObj,Sem.run,h]
theorem jda (m:az P C ω w0 C0 hp w)(e:aq C ω w w0.heap.size env a.tmps){x x' b pos s}(ho:o.op=.next x Gd)(h1:qv x=I x')(e1:qh env x'=I (.ptr b 0))(gL:hp[b]?=I (.iter s pos)):
  (pos<s.length→∀h',jt hp b (.iter s (pos+(qn s pos).2))=I h'→∃v w',(execOp a.eval o).run P w=.ok (.value v) w'∧zk P C0 w0 C a.tmps d env ⟨.aJ [.bool Gd,.int .i64 pos,.int .i32 (qn s pos).1],Gb,Ga,h'⟩ v w') ∧
  (¬pos<s.length→∃v w',(execOp a.eval o).run P w=.ok (.value v) w'∧zk P C0 w0 C a.tmps d env ⟨.aJ [.bool Gb],Gb,Ga,hp⟩ v w'):=by
 obtain⟨r,hr,hq⟩:=(qx e.cr h1 e1).dz
 have gK:w.heap[r]?=I (.stringIter ⟨⟨s⟩⟩ pos):=m.box b _ r gL hr
 have bw:=(m.lt b r hr).1
 have da:(⟨⟨s⟩⟩:ByteArray).size=s.length:=rfl
 constructor
 ·intro gN h' bF
  obtain rfl:=AF bF
  have hu:=DF (w:=w) (r:=r) (x:=.stringIter ⟨⟨s⟩⟩ (pos+(qn s pos).2)) bw (by simp)
  refine⟨.tuple #[.bool Gd,goInt pos,.int .i32 (qn s pos).1],ke w r (.stringIter ⟨⟨s⟩⟩ (pos+(qn s pos).2)),?_,C,ω,aM.le_refl C,m.ec hu hr _ (fun _ _ _ _ _ h=>h) (FO bw),e.dP hu hr,?_,by simp⟩
  ·have eK:pos<(⟨⟨s⟩⟩:ByteArray).size:=gN
   have bF:=yC (P:=P) (x:=.stringIter ⟨⟨s⟩⟩ (pos+(qn s pos).2)) gK (by simp)
   simp only[execOp,ho,hq,Instr.next,Sem.run_bind,pB gK (by simp),Result.andThen_ok,eK,if_true]
   unfold qn at bF ⊢
   simp only[Sem.run_bind,bF,Result.andThen_ok,Sem.run_pure]
  ·refine .aJ _ _ (.cons _ _ _ _ (.bool _) (.cons _ _ _ _ ?_ (.cons _ _ _ _ (.int _ _) .nil)))
   exact .int _ _
 ·intro gN
  have eK:¬pos<(⟨⟨s⟩⟩:ByteArray).size:=gN
  refine⟨.tuple #[.bool Gb],w,?_,q50 m e (.aJ _ _ (.cons _ _ _ _ (.bool _) .nil))⟩
  simp only[execOp,ho,hq,Instr.next,Sem.run_bind,pB gK (by simp),Result.andThen_ok,eK,if_false,Sem.run_pure]
theorem Rk {t:TypeId}{kd}(h:kE P t=I kd):(kd=.int∧∃k,P.underlying t=I (.int k))∨(kd=.str∧P.underlying t=I .string)∨(kd=.bool∧P.underlying t=I .bool):=by
 unfold kE at h
 split at h<;>first|cases h|skip
 ·exact .inl ⟨rfl,_,‹_›⟩
 ·exact .inr (.inl ⟨rfl,‹_›⟩)
 ·exact .inr (.inr ⟨rfl,‹_›⟩)
theorem qxo {t:TypeId}{td:TypeDesc}{kd x y u v b}(ht:P.underlying t=I td)(hk:kE P t=I kd)(hx:bR C x u)(hy:bR C y v)(h:lv kd x y=I b):Instr.sameNow td u v=I b∧(b=Gd→x=y∧u=v∧Instr.sameBits 10000 v u=Gd):=by
 rcases Rk hk with⟨rfl,k,hu⟩|⟨rfl,hu⟩|⟨rfl,hu⟩<;>rw[hu]at ht<;>cases ht
 ·cases x<;>cases y<;>simp only[lv]at h<;>first|cases h|skip
  rename_i k1 n1 k2 n2
  have e1:=hx.bU
  have e2:=hy.bU
  subst e1;subst e2
  by_cases iw:k1=k2
  ·subst iw
   simp only[decide_true,cond_true,I.injEq]at h
   refine⟨by simp[Instr.sameNow,h],fun hb=>?_⟩
   subst hb
   have:n1=n2:=by simpa using h
   subst this
   exact⟨rfl,rfl,by simp[Instr.sameBits]⟩
  ·simp[iw]at h
 ·cases x<;>cases y<;>simp only[lv]at h<;>first|cases h|skip
  rename_i s1 s2
  have e1:=hx.cw
  have e2:=hy.cw
  subst e1;subst e2
  have FP:((⟨⟨s1⟩⟩:ByteArray) == ⟨⟨s2⟩⟩)=(s1 == s2):=by
   show(Array.mk s1 == Array.mk s2)=_
   simp
  refine⟨by simp only[Instr.sameNow,FP],fun hb=>?_⟩
  have vd:s1=s2:=by simpa using hb
  subst vd
  refine⟨rfl,rfl,?_⟩
  simp only[Instr.sameBits,FP]
  simp
 ·cases x<;>cases y<;>simp only[lv]at h<;>first|cases h|skip
  rename_i b1 b2
  have e1:=hx.dy
  have e2:=hy.dy
  subst e1;subst e2
  refine⟨by simp[Instr.sameNow],fun hb=>?_⟩
  have vd:b1=b2:=by simpa using hb
  subst vd
  exact⟨rfl,rfl,by simp[Instr.sameBits]⟩
theorem FQ {t:TypeId}{td:TypeDesc}{kd k u}(ht:P.underlying t=I td)(hk:kE P t=I kd)(hx:bR C k u):∀ {es:List (AVal×AVal)} {ms:List MapEntry} {i:Nat} {r:Option (Nat×AVal)},cI C es ms→zd kd k es i=I r →
  match r with
  |none=>Instr.findNow td u ms i=I Ga
  |some (j,v)=>∃m,i≤j∧es[j-i]?=I (k,v)∧ms[j-i]?=I m∧m.key=u∧bR C v m.val∧Instr.findNow td u ms i=I (I (j,m.val))∧Instr.sameBits 10000 m.key u=Gd
 |_,_,i,r,.nil,h=>by
  simp only[zd,I.injEq]at h
  subst h
  simp[Instr.findNow]
 |_,_,i,r,.cons k' v' es m ms h1 h2 h3,h=>by
  simp only[zd]at h
  split at h
  ·rename_i he
   cases h
   obtain⟨q1,q2⟩:=qxo ht hk hx h1 he
   obtain⟨rfl,rfl,q3⟩:=q2 rfl
   exact⟨m,Gn _,by simp,by simp,rfl,h2,by simp[Instr.findNow,q1],q3⟩
  ·rename_i he
   obtain⟨q1,_⟩:=qxo ht hk hx h1 he
   have ih:=FQ ht hk hx h3 h
   cases r with
   |none=>simp only[Instr.findNow,q1];exact ih
   |some jv=>
    obtain⟨j,v⟩:=jv
    obtain⟨m2,k1,k2,k3,k4,k5,k6,k7⟩:=ih
    refine⟨m2,by omega,?_,?_,k4,k5,by simp only[Instr.findNow,q1];exact k6,k7⟩
    ·rw[show j-i=(j-(i+1))+1 from by omega];simpa using k2
    ·rw[show j-i=(j-(i+1))+1 from by omega];simpa using k3
  ·cases h
theorem DG {t:TypeId}{kd}(hk:kE P t=I kd)(e:Bool)(v:Value):(Instr.checkKey e 10000 t v).run P w=.ok () w:=by
 rcases Rk hk with⟨_,k,hu⟩|⟨_,hu⟩|⟨_,hu⟩<;>(unfold Instr.checkKey;simp[run_underlying hu])
theorem FR {t:TypeId}{td:TypeDesc}{u ms r}(ht:P.underlying t=I td)(h:Instr.findNow td u ms 0=I r):(Instr.findKey t u ms).run P w=.ok r w:=by
 simp[Instr.findKey,run_underlying ht,h]
theorem Rl {t:TypeId}{kd}(hk:kE P t=I kd):∃td,P.underlying t=I td:=by
 rcases Rk hk with⟨_,k,hu⟩|⟨_,hu⟩|⟨_,hu⟩<;>exact⟨_,hu⟩
theorem Rm (m:az P C ω w0 C0 hp w)(e:aq C ω w w0.heap.size env a.tmps){t kt el:TypeId}{x y ok x' y' kd zv mv kv r}(ho:o.op=.lookup t x y ok)(ht:P.underlying t=I (.map kt el))(iJ:kE P kt=I kd)(hz:Qu P el=I zv)
  (h1:qv x=I x') (h2:qv y=I y') (e1:qh env x'=I mv) (e2:qh env y'=I kv)
  (hv:(mv=.b4∧r=Ga)∨∃b es,mv=.map b∧hp[b]?=I (.map es)∧zd kd kv es 0=I r):
  Val P C a o w (match r with
   |some (_,v)=>bif ok then .aJ [v,.bool Gd]else v
   |none=>bif ok then .aJ [zv,.bool Gb]else zv):=by
 have iu:=qx e.cr h2 e2
 have vf:=qx e.cr h1 e1
 obtain⟨td,qX⟩:=Rl iJ
 obtain⟨FT,lj,nc⟩:∃v,(∀w,(zeroValue el).run P w=.ok v w)∧bR C zv v:=by
  unfold Qu at hz
  split at hz
  ·rename_i i hi
   split at hz
   ·rename_i v hv
    exact⟨v,fun w=>by simp[zeroValue,typeInfo,hi,hv],qsf C hz⟩
   ·cases hz
  ·cases hz
 have fin:∀ {ms:List MapEntry} {rv:Option (Nat×Value)},(a.eval x=.map Ga∧ms=[]∨∃q clock,a.eval x=.map (I q)∧w.heap[q]?=I (.map ⟨ms⟩ clock))→Instr.findNow td (a.eval y) ms 0=I rv →
   (execOp a.eval o).run P w=.ok (.value (if ok then .tuple #[(match rv with|some (_,v)=>v|none=>FT),.bool rv.isSome]else(match rv with|some (_,v)=>v|none=>FT))) w:=by
  intro ms rv hm hf
  have vg:=FR (w:=w) qX hf
  rcases hm with⟨hm,rfl⟩|⟨q,clock,hm,hq⟩
  ·cases rv<;>simp[execOp,ho,Instr.lookup,run_underlying ht,hm,DG iJ,vg,lj]
  ·cases rv<;>simp[execOp,ho,Instr.lookup,run_underlying ht,hm,pB hq (by simp),DG iJ,vg,lj]
 rcases hv with⟨rfl,rfl⟩|⟨b,es,rfl,hb,hfe⟩
 ·generalize mA:a.eval x=mx at vf
  cases vf
  refine⟨_,fin (ms:=[]) (rv:=none) (.inl ⟨mA,rfl⟩) (by simp[Instr.findNow]),?_⟩
  cases ok with
  |true=>exact .aJ _ _ (.cons _ _ _ _ nc (.cons _ _ _ _ (.bool _) .nil))
  |false=>exact nc
 ·generalize mA:a.eval x=mx at vf
  cases vf with
  |map _ q oK=>
   obtain⟨cg,clock,g1,g2⟩:=m.box b _ q hb oK
   have hf:=FQ qX iJ iu g2 hfe
   cases r with
   |none=>
    refine⟨_,fin (ms:=cg.toList) (rv:=none) (.inr ⟨q,clock,mA,g1⟩) hf,?_⟩
    cases ok with
    |true=>exact .aJ _ _ (.cons _ _ _ _ nc (.cons _ _ _ _ (.bool _) .nil))
    |false=>exact nc
   |some jv=>
    obtain⟨j,v⟩:=jv
    obtain⟨me,_,_,_,_,hrv,hfn,_⟩:=hf
    refine⟨_,fin (ms:=cg.toList) (rv:=I (j,me.val)) (.inr ⟨q,clock,mA,g1⟩) hfn,?_⟩
    cases ok with
    |true=>exact .aJ _ _ (.cons _ _ _ _ hrv (.cons _ _ _ _ (.bool _) .nil))
    |false=>exact hrv
theorem cI.iN {k v:AVal}:∀ {es:List (AVal×AVal)} {ms:List MapEntry} {j:Nat} {m:MapEntry},cI C es ms→bR C v m.val→(∀k',(es[j]?).map (·.1)=I k'→bR C k' m.key)→cI C (qG es j v) (ms.set j m)
 |_,_,j,m,.nil,_,_=>by simp[qG];exact .nil
 |_,_,0,m,.cons k' v' es m' ms h1 h2 h3,hv,hk=>by
  simp only[qG,List.set_cons_zero]
  exact .cons _ _ _ _ _ (hk k' (by simp)) hv h3
 |_,_,j+1,m,.cons k' v' es m' ms h1 h2 h3,hv,hk=>by
  simp only[qG,List.set_cons_succ]
  exact .cons _ _ _ _ _ h1 h2 (cI.iN (k:=k) h3 hv (fun k' h=>hk k' (by simpa using h)))
theorem cI.push {k v m es ms}(h:cI C es ms)(hk:bR C k m.key)(hv:bR C v m.val):cI C (es++[(k,v)]) (ms++[m]):=by
 induction h with
 |nil=>exact .cons _ _ _ _ _ hk hv .nil
 |cons k' v' es m' ms h1 h2 _ ih=>exact .cons _ _ _ _ _ h1 h2 ih
theorem qop (m:az P C ω w0 C0 hp w)(e:aq C ω w w0.heap.size env a.tmps){t kt el:TypeId}{x y z x' y' z' kd kv v b es h'}(ho:o.op=.mapUpdate t x y z∨o.op=.insert t x y z)(ht:P.underlying t=I (.map kt el))(iJ:kE P kt=I kd)
  (h1:qv x=I x') (h2:qv y=I y') (h3:qv z=I z') (e1:qh env x'=I (.map b)) (e2:qh env y'=I kv) (e3:qh env z'=I v) (hb:hp[b]?=I (.map es))
  (hv:(∃i u,zd kd kv es 0=I (I (i,u))∧jt hp b (.map (qG es i v))=I h')∨(zd kd kv es 0=I Ga∧jt hp b (.map (es++[(kv,v)]))=I h')):
  ∃w',(execOp a.eval o).run P w=.ok .skip w'∧zk P C0 w0 C a.tmps d env ⟨.undef,Gb,Ga,h'⟩ undef w':=by
 have iu:=qx e.cr h2 e2
 have hvr:=qx e.cr h3 e3
 have vf:=qx e.cr h1 e1
 obtain⟨td,qX⟩:=Rl iJ
 generalize mA:a.eval x=mx at vf
 cases vf with
 |map _ q oK=>
  obtain⟨cg,clock,g1,g2⟩:=m.box b _ q hb oK
  have bw:=(m.lt b q oK).1
  have done:∀(AO:List (AVal×AVal)) (qY:Array MapEntry) (kL:Nat),cI C AO qY.toList→jt hp b (.map AO)=I h' →
    (execOp a.eval o).run P w=.ok .skip (ke w q (.map qY kL))→∃w',(execOp a.eval o).run P w=.ok .skip w'∧zk P C0 w0 C a.tmps d env ⟨.undef,Gb,Ga,h'⟩ undef w':=by
   intro AO qY kL wx bF bH
   obtain rfl:=AF bF
   have hu:=DF (w:=w) (r:=q) (x:=.map qY kL) bw (by simp)
   exact⟨_,bH,C,ω,aM.le_refl C,m.ec hu oK _ (fun _ _ _ _ _ h=>h) ⟨qY,kL,FO bw,wx⟩,e.dP hu oK,.undef,by simp⟩
  rcases hv with⟨i,u,hf,bF⟩|⟨hf,bF⟩
  ·obtain⟨me,_,k1,k2,k3,k4,k5,k6⟩:=FQ qX iJ iu g2 hf
   have vg:=FR (w:=w) qX k5
   simp only[Nat.sub_zero]at k1 k2
   have Rn:cg[i]?=I me:=by simpa using k2
   have hlen:i<cg.size:=(Gz.1 Rn).1
   refine done (qG es i v) (cg.modify i fun e=>{ e with key:=a.eval y,val:=a.eval z }) clock ?_ bF ?_
   ·have:(cg.modify i fun e=>{ e with key:=a.eval y,val:=a.eval z }).toList=cg.toList.set i { me with key:=a.eval y,val:=a.eval z }:=by
     apply Sc
     intro j
     rw[Gq,Array.getElem?_modify,X2]
     by_cases n6:i=j
     ·subst n6
      have hgi:=(Gz.1 Rn).2
      simp[hlen,hgi]
     ·simp[n6]
    rw[this]
    refine cI.iN (k:=kv) g2 hvr (fun k' eW=>?_)
    rw[k1]at eW
    cases eW
    exact iu
   ·have gj:=yC (P:=P) (x:=.map (cg.modify i fun e=>{ e with key:=a.eval y,val:=a.eval z }) clock) g1 (by simp)
    have FU:∀w:World,(Instr.keyThatStays (((cg[i]?).map (·.key)).getD (a.eval y)) (a.eval y)).run P w=.ok (a.eval y) w:=by
     intro w
     simp[Instr.keyThatStays,Rn,k6]
    rcases ho with ho|ho<;>simp only[execOp,ho,Instr.mapUpdate,Sem.run_bind,run_underlying ht,Result.andThen_ok,mA,pB g1 (by simp),DG iJ,vg,FU,gj,Sem.run_pure]
  ·have QF:=FQ qX iJ iu g2 hf
   have vg:=FR (w:=w) qX QF
   refine done (es++[(kv,v)]) (cg.push { key:=a.eval y,val:=a.eval z,born:=clock }) (clock+1) ?_ bF ?_
   ·rw[Array.toList_push]
    exact g2.push iu hvr
   ·have gj:=yC (P:=P) (x:=.map (cg.push { key:=a.eval y,val:=a.eval z,born:=clock }) (clock+1)) g1 (by simp)
    rcases ho with ho|ho<;>simp only[execOp,ho,Instr.mapUpdate,Sem.run_bind,run_underlying ht,Result.andThen_ok,mA,pB g1 (by simp),DG iJ,vg,gj,Sem.run_pure]
end
section
variable {P:Program}{C C0:aM}{ω:Nat→Option Loc}{w w' w0:World}{hp:qi}{env:Env}{a:Act}{o:Oper}{tmps:Array Value}{d:Loc}
theorem q0x {n sz len cap:Nat}{base:Option Addr}{cs:List Value}(hl:cs.length=n*sz)(h:∀ad,base=I ad→∀j v,cs[j]?=I v→w.cell? (ad.add j)=I v)(hn:base=Ga→n=0):
  (Builtin.firstCells sz n (.slice base len cap)).run P w=.ok cs.toArray w:=by
 cases base with
 |none=>
  have:cs=[]:=by
   have:=hn rfl
   subst this
   exact List.length_eq_zero_iff.1 (by simpa using hl)
  subst this
  exact run_firstCells_none _ _ _ _ _
 |some ad=>exact run_firstCells_some w _ _ _ _ _ cs hl (h ad rfl)
theorem jic (m:az P C ω w0 C0 hp w)(e:aq C ω w w0.heap.size env a.tmps){c:Call}{t:TypeId}{ts:List TypeId}{el:TypeId}{x y x' y' sz b q len n vy us cs eN h'}
  (ho:o.op=.call c) (ek:c.callee=.builtin .copy) (eC:c.args.toList=[x,y]) (eV:c.argTypes.toList=t::ts) (ht:P.underlying t=I (.slice el)) (hn:jp P el=I sz)
  (h1:qv x=I x') (h2:qv y=I y') (e1:qh env x'=I (.ms b q len)) (e2:qh env y'=I vy) (lm:ju hp b=I cs) (cX:Ag sz len vy=I (n,us)) (cq:jr cs q us=I eN) (QJ:us.length=n*sz) (bF:jt hp b (.cells eN)=I h'):
  ∃u w',(execOp a.eval o).run P w=.ok (.value u) w'∧zk P C0 w0 C a.tmps d env ⟨.int .i64 n,Gb,Ga,h'⟩ u w':=by
 obtain⟨r,cap,hr,hle,hq⟩:=(qx e.cr h1 e1).fc
 have ry:=qx e.cr h2 e2
 unfold jr at cq
 cases hb:(Tp (q+us.length) cs.length&&us.all qk)with
 |false=>simp[hb]at cq
 |true=>
  simp only[hb,cond_true,I.injEq]at cq
  simp only[Gy]at hb
  subst cq
  -- the source
  obtain⟨news,base,sl,sc,hy,de,hcells,Ro,qO⟩:∃news base sl sc,a.eval y=.slice base sl sc∧aW C us news∧(∀ad,base=I ad→∀j v,news[j]?=I v→w.cell? (ad.add j)=I v)∧Nat.min sl len=n∧(base=Ga→n=0):=by
   unfold Ag at cX
   split at cX
   ·rename_i nn sy ys
    cases hk:(G7 sz sy||ys.isEmpty)with
    |false=>simp[hk]at cX
    |true=>
     simp only[hk,cond_true,I.injEq,Prod.mk.injEq]at cX
     obtain⟨rfl,rfl⟩:=cX
     generalize a.eval y=vv at ry
     cases ry with
     |jI=>exact⟨[],Ga,0,0,rfl,by simpa using aI.nil,by simp,by simp[Nat.min_def],by simp⟩
     |jJ _ ad _=>exact⟨[],I ad,0,0,rfl,by simpa using aI.nil,by simp,by simp,by simp⟩
     |list _ _ r' o' kK hl dp=>
      have hc:cz C r' ((ys.take len).flatMap AVal.flat) o':=bz.cells (bz.take len dp)
      obtain⟨vs,k1,k2⟩:=hc.vals
      refine⟨vs,I ⟨r',o',Ga⟩,ys.length,kK,rfl,k1,?_,rfl,by simp⟩
      intro ad had j v hj
      cases had
      rw[add_lit]
      exact m.know _ _ _ (k2 j v hj)
   ·cases cX
  have df:=Ax de (by simpa using hb.2)
  obtain⟨vs,te,hg,cG,m',e'⟩:=q5z m e (wo lm) hr de df (Ny hb.1)
  obtain rfl:=AF bF
  have hfc:=q0x (P:=P) (w:=w) (n:=n) (sz:=sz) (len:=sl) (cap:=sc) (base:=base) (cs:=news) (by rw[de.length,QJ]) hcells qO
  have FV:=run_storeCells_at (P:=P) r q te news 0 vs w hg (by simpa using cG) df
  simp only[Ue]at FV
  have bH:(Builtin.copy_ c.argTypes o.type (c.args.map a.eval)).run P w=.ok (goInt n) (w.setRow r (vs.toList.take q++news++vs.toList.drop (q+news.length)).toArray):=by
   have ha:c.args.map a.eval=#[a.eval x,a.eval y]:=by
    apply G8;simp[eC]
   have hat:c.argTypes[0]?=I t:=by rw[←Gq,eV];rfl
   rw[ha]
   simp only[Builtin.copy_,hat,Gs,R3,R4,Sem.run_bind,run_underlying ht,Result.andThen_ok,hq,hy,Builtin.lenOf,Sem.run_pure,Ro,ym hn,hfc,FV]
  refine⟨goInt n,_,?_,C,ω,aM.le_refl C,m',e',?_,by simp⟩
  ·have ha:Array.map a.eval c.args=#[a.eval x,a.eval y]:=by
    apply G8;simp[eC]
   rw[ha]at bH
   simp[execOp,ho,resolve,ek,ha,invoke,builtin,bH]
  ·exact .int _ _
theorem cI.erase:∀ {es:List (AVal×AVal)} {ms:List MapEntry} (j:Nat),cI C es ms→cI C (es.eraseIdx j) (ms.eraseIdx j)
 |_,_,j,.nil=>by simpa using cI.nil
 |_,_,0,.cons k' v' es m' ms h1 h2 h3=>by simpa using h3
 |_,_,j+1,.cons k' v' es m' ms h1 h2 h3=>by simpa using .cons _ _ _ _ _ h1 h2 (cI.erase j h3)
theorem jat (m:az P C ω w0 C0 hp w)(e:aq C ω w w0.heap.size env a.tmps){c}{t kt el:TypeId}{ts x y x' y' kd kv b es h' r}
  (ho:o.op=.call c) (ek:c.callee=.builtin .delete) (eC:c.args.toList=[x,y]) (eV:c.argTypes.toList=t::ts) (ht:P.underlying t=I (.map kt el)) (iJ:kE P kt=I kd)
  (h1:qv x=I x') (h2:qv y=I y') (e1:qh env x'=I (.map b)) (e2:qh env y'=I kv) (hb:hp[b]?=I (.map es))
  (hf:zd kd kv es 0=I r) (bF:jt hp b (.map (q5x es r))=I h'):
  ∃u w',(execOp a.eval o).run P w=.ok (.value u) w'∧zk P C0 w0 C a.tmps d env ⟨.aJ [],Gb,Ga,h'⟩ u w':=by
 have iu:=qx e.cr h2 e2
 have vf:=qx e.cr h1 e1
 obtain⟨td,qX⟩:=Rl iJ
 have ha:Array.map a.eval c.args=#[a.eval x,a.eval y]:=by
  apply G8;simp[eC]
 have hat:c.argTypes[0]?=I t:=by rw[←Gq,eV];rfl
 generalize mA:a.eval x=mx at vf
 cases vf with
 |map _ q oK=>
  obtain⟨cg,clock,g1,g2⟩:=m.box b _ q hb oK
  have bw:=(m.lt b q oK).1
  have done:∀(AO:List (AVal×AVal)) (qY:Array MapEntry),cI C AO qY.toList→jt hp b (.map AO)=I h' →
    (Builtin.delete_ c.argTypes o.type #[.map (I q),a.eval y]).run P w=.ok (.tuple #[]) (ke w q (.map qY clock))→∃u w',(execOp a.eval o).run P w=.ok (.value u) w'∧zk P C0 w0 C a.tmps d env ⟨.aJ [],Gb,Ga,h'⟩ u w':=by
   intro AO qY wx bF bH
   obtain rfl:=AF bF
   have hu:=DF (w:=w) (r:=q) (x:=.map qY clock) bw (by simp)
   refine⟨.tuple #[],_,?_,C,ω,aM.le_refl C,m.ec hu oK _ (fun _ _ _ _ _ h=>h) ⟨qY,clock,FO bw,wx⟩,e.dP hu oK,.aJ _ _ .nil,by simp⟩
   simp[execOp,ho,resolve,ek,ha,mA,invoke,builtin,bH]
  have hfn:=FQ qX iJ iu g2 hf
  cases r with
  |none=>
   have vg:=FR (w:=w) qX hfn
   refine done es cg g2 bF ?_
   have gj:=yC (P:=P) (x:=.map cg clock) g1 (by simp)
   simp only[Builtin.delete_,hat,Gs,R3,R4,Sem.run_bind,run_underlying ht,Result.andThen_ok,pB g1 (by simp),DG iJ,vg,gj,Sem.run_pure]
  |some jv=>
   obtain⟨j,v⟩:=jv
   obtain⟨me,_,k1,k2,k3,k4,k5,k6⟩:=hfn
   have vg:=FR (w:=w) qX k5
   refine done (es.eraseIdx j) (cg.eraseIdxIfInBounds j) ?_ bF ?_
   ·have:(cg.eraseIdxIfInBounds j).toList=cg.toList.eraseIdx j:=by simp
    rw[this];exact cI.erase j g2
   ·have gj:=yC (P:=P) (x:=.map (cg.eraseIdxIfInBounds j) clock) g1 (by simp)
    simp only[Builtin.delete_,hat,Gs,R3,R4,Sem.run_bind,run_underlying ht,Result.andThen_ok,pB g1 (by simp),DG iJ,vg,gj,Sem.run_pure]
end
section
variable {P:Program}{p:jz}{xc:XC}{C C0:aM}{ω:Nat→Option Loc}{w w0:World}{hp:qi}{env:Env}{a:Act}{o:Oper}{d:Loc}{h:qj}{md:eE}{r h0:Nat}{dst:Option Nat}{al:Option (List Nat)}{cO:cV}{res:bj}
def yh (P:Program)(C C0:aM)(w0:World)(a:Act)(d:Loc)(env:Env)(o:Oper)(w:World)(res:bj):Prop:=
 (∃v w',(execOp a.eval o).run P w=.ok (.value v) w'∧zk P C0 w0 C a.tmps d env res v w') ∨
 (∃w',(execOp a.eval o).run P w=.ok .skip w'∧zk P C0 w0 C a.tmps d env res undef w') ∨
 (∃f args,(execOp a.eval o).run P w=.ok (.enter f args) w∧CallsIn Fence.wide 0 P f args w fun e w'=>∃v,e=.returned v∧zk P C0 w0 C a.tmps d env res v w') ∨
 (∃l f tmps assign body,(execOp a.eval o).run P w=.ok (.round l f tmps assign body) w∧RoundIn Fence.wide 0 P l f tmps assign body w fun e w'=>∃v,e=.returned v∧zk P C0 w0 C a.tmps d env res v w')
theorem jh (m:az P C ω w0 C0 hp w)(e:aq C ω w w0.heap.size env a.tmps){x}(hv:Val P C a o w x):yh P C C0 w0 a d env o w ⟨x,Gb,Ga,hp⟩:=by
 obtain⟨v,h1,h2⟩:=hv
 exact .inl ⟨v,w,h1,q50 m e h2⟩
theorem qz {x}(hs:val hp x=I res):res=⟨x,Gb,Ga,hp⟩:=by simpa[val]using hs.symm
theorem vh {x}(hs:gG hp x=I res):∃v,x=I v∧res=⟨v,Gb,Ga,hp⟩:=by
 cases x with
 |none=>simp[gG]at hs
 |some v=>exact⟨v,rfl,by simpa[gG]using hs.symm⟩
theorem KN (m:az P C ω w0 C0 hp w)(e:aq C ω w w0.heap.size env a.tmps){x}(ho:o.op=.move x∨o.op=.assign x){y}(hc:qv x=I y)(hs:qp env hp (.move y)=I res):yh P C C0 w0 a d env o w res:=by
 simp only[qp]at hs
 obtain⟨v,hv,rfl⟩:=vh hs
 exact jh m e (jim e.cr ho hc hv)
theorem q25 (m:az P C ω w0 C0 hp w)(e:aq C ω w w0.heap.size env a.tmps){s}(ho:o.op=.move (.tmp s)∨o.op=.assign (.tmp s))(hs:qp env hp (.take s)=I res):yh P C C0 w0 a d env o w res:=by
 simp only[qp]at hs
 split at hs
 ·rename_i v ow hl
  cases hs
  exact .inl (jg0 m e ho hl)
 ·cases hs
theorem jhc (m:az P C ω w0 C0 hp w)(e:aq C ω w w0.heap.size env a.tmps){x}(ho:o.op=.move x)(hc:cW P h md r dst (.move x)=I cO)(hs:qf p xc h0 al env hp cO=I res):yh P C C0 w0 a d env o w res:=by
 simp only[cW]at hc
 split at hc
 ·rename_i s ht
  cases hc
  unfold q8a at ht
  split at ht
  ·split at ht
   ·cases ht;exact q25 m e (.inl ho) hs
   ·cases ht
  ·cases ht
 ·obtain⟨y,hy,rfl⟩:=En.1 hc
  exact KN m e (.inl ho) hy hs
theorem jcu (m:az P C ω w0 C0 hp w)(e:aq C ω w w0.heap.size env a.tmps){x}(ho:o.op=.assign x)(hc:cW P h md r dst (.assign x)=I cO)(hs:qf p xc h0 al env hp cO=I res):yh P C C0 w0 a d env o w res:=by
 cases x with
 |tmp s=>simp only[cW]at hc;cases hc;exact q25 m e (.inr ho) hs
 |const v=>simp only[cW]at hc;obtain⟨y,hy,rfl⟩:=En.1 hc;exact KN m e (.inr ho) hy hs
 |func v=>simp only[cW]at hc;obtain⟨y,hy,rfl⟩:=En.1 hc;exact KN m e (.inr ho) hy hs
 |global v=>simp only[cW]at hc;obtain⟨y,hy,rfl⟩:=En.1 hc;exact KN m e (.inr ho) hy hs
theorem jku (m:az P C ω w0 C0 hp w)(e:aq C ω w w0.heap.size env a.tmps){c x y}(ho:o.op=.pick c x y)(hc:cW P h md r dst (.pick c x y)=I cO)(hs:qf p xc h0 al env hp cO=I res):yh P C C0 w0 a d env o w res:=by
 simp only[cW]at hc
 split at hc
 ·rename_i c' x' y' h1 h2 h3
  cases hc
  simp only[qf,qp]at hs
  split at hs
  ·rename_i b e1
   split at hs
   ·rename_i u v e2 e3
    obtain rfl:=qz hs
    exact jh m e (jf8 e.cr ho h1 h2 h3 e1 e2 e3)
   ·cases hs
  ·cases hs
 ·cases hc
theorem q40 (m:az P C ω w0 C0 hp w)(e:aq C ω w w0.heap.size env a.tmps){x}(ho:o.op=.nilCheck x)(hc:cW P h md r dst (.nilCheck x)=I cO)(hs:qf p xc h0 al env hp cO=I res):yh P C C0 w0 a d env o w res:=by
 simp only[cW]at hc
 obtain⟨y,hy,rfl⟩:=En.1 hc
 simp only[qf,qp]at hs
 split at hs
 ·rename_i b q hv;obtain rfl:=qz hs;exact jh m e (qpp e.cr ho hy hv (.inl ⟨_,_,rfl⟩))
 ·rename_i z hv;obtain rfl:=qz hs;exact jh m e (qpp e.cr ho hy hv (.inr ⟨_,rfl⟩))
 ·rename_i f u v hv
  obtain rfl:=qz hs
  have hr:=qx e.cr hy hv
  refine jh m e ⟨a.eval x,?_,hr⟩
  generalize hx:a.eval x=ev at hr
  cases hr with
  |fn f f' u v as bs hf ha hb=>
   simp only[fG]at hf
   subst hf
   simp[execOp,ho,hx]
 ·cases hs
theorem jrj (m:az P C ω w0 C0 hp w)(e:aq C ω w w0.heap.size env a.tmps){op}{t:TypeId}{x}(ho:o.op=.unOp op t x)(hc:cW P h md r dst (.unOp op t x)=I cO)(hs:qf p xc h0 al env hp cO=I res):yh P C C0 w0 a d env o w res:=by
 simp only[cW]at hc
 obtain⟨y,hy,rfl⟩:=En.1 hc
 simp only[qf,qp]at hs
 split at hs
 ·rename_i v hv
  obtain⟨u,hu,rfl⟩:=vh hs
  exact jh m e (jvk e.cr ho hy hv hu)
 ·cases hs
theorem jlo (m:az P C ω w0 C0 hp w)(e:aq C ω w w0.heap.size env a.tmps){s t:TypeId}{x}(ho:o.op=.convert s t x)(hc:cW P h md r dst (.convert s t x)=I cO)(hs:qf p xc h0 al env hp cO=I res):yh P C C0 w0 a d env o w res:=by
 simp only[cW]at hc
 split at hc
 ·rename_i k0 k u1 u2
  obtain⟨y,hy,rfl⟩:=En.1 hc
  simp only[qf,qp]at hs
  split at hs
  ·rename_i k1 n hv
   obtain rfl:=qz hs
   exact jh m e (jhu e.cr ho u1 u2 hy hv)
  ·cases hs
 ·rename_i u1 u2
  obtain⟨y,hy,rfl⟩:=En.1 hc
  simp only[qf,qp]at hs
  split at hs
  ·rename_i l hv
   obtain rfl:=qz hs
   exact jh m e (q7f e.cr ho u1 u2 hy hv ⟨_,rfl⟩)
  ·rename_i k1 n hv
   obtain rfl:=qz hs
   exact jh m e (q39 e.cr ho u1 u2 hy hv)
  ·cases hs
 ·rename_i k0 u1 u2
  obtain⟨y,hy,rfl⟩:=En.1 hc
  simp only[qf,qp]at hs
  split at hs
  ·rename_i l hv
   obtain rfl:=qz hs
   exact jh m e (q23 e.cr ho u1 u2 hy hv ⟨_,rfl⟩)
  ·rename_i k1 n hv
   obtain rfl:=qz hs
   exact jh m e (q6i e.cr ho u1 u2 hy hv)
  ·cases hs
 ·cases hc
theorem q71 {ag n y}(hs:qp env hp (.fB ag n y)=I res):yi h0 al env hp (.load ag n y)=I res:=by
 simp only[qp]at hs
 simp only[yi]
 split at hs
 ·rename_i v hv
  rw[hv];exact hs
 ·cases hs
theorem q0c {g}:∀ {l:List (String×List Int)} {cs:List Int},Fi P g l=I cs→∃n,(n,cs)∈l∧P.globalNamed n=I g
 | [],_,h=>by simp[Fi]at h
 |(n,ds)::l,cs,h=>by
  simp only[Fi]at h
  split at h
  ·rename_i hn
   cases h
   exact⟨n,T5 ..,by simpa using hn⟩
  ·obtain⟨n',h1,h2⟩:=q0c h
   exact⟨n',Tn _ h1,h2⟩
theorem jd2 {ns:List Int}:aW C (ns.map (AVal.int .i64)) (ns.map (Value.int .i64)):=by
 induction ns with
 |nil=>exact .nil
 |cons n ns ih=>exact .cons _ _ _ _ (.int _ _) ih
theorem je7 (m:az P C ω w0 C0 hp w)(e:aq C ω w w0.heap.size env a.tmps){t:TypeId}{g}(ho:o.op=.load t (.global g))(hc:cW P h md r dst (.load t (.global g))=I cO)(hs:qf p xc h0 al env hp cO=I res):yh P C C0 w0 a d env o w res:=by
 have hc:Ko P t g=I cO:=hc
 unfold Ko at hc
 split at hc
 ·rename_i cs n hf hg hn
  split at hc
  ·rename_i hl
   cases hc
   have hl:cs.length=n:=by simpa using hl
   simp only[qf,qp,qh]at hs
   obtain⟨u,hu,rfl⟩:=vh hs
   cases hu
   obtain⟨nm,dx,hnm⟩:=q0c hf
   have ht:=(m.tabs g (.inr (.inr ⟨_,dx,hnm⟩))).2.2.2 _ dx hnm
   have ep:∀j v,(cs.map (Value.int .i64))[j]?=I v→w.cell? ⟨g,0+j,Ga⟩=I v:=by
    intro j v hj
    rw[Jr,En]at hj
    obtain⟨i,hi,rfl⟩:=hj
    rw[Ul]
    exact ht j i hi
   have FW:=FE (P:=P) (w:=w) hg hn (vs:=cs.map (Value.int .i64)) (by simpa using hl) ep
   refine jh m e ⟨.agg ⟨cs.map (Value.int .i64)⟩,?_,.agg _ _ jd2⟩
   have fI:a.eval (.global g)=.pointer (I ⟨g,0,Ga⟩):=rfl
   simp[execOp,ho,Instr.loadAt,fI,Instr.sureAddr,FW]
  ·cases hc
 ·cases hc
theorem jji (m:az P C ω w0 C0 hp w)(e:aq C ω w w0.heap.size env a.tmps){t:TypeId}{x}(ho:o.op=.load t x)(hc:cW P h md r dst (.load t x)=I cO)(hs:qf p xc h0 al env hp cO=I res):yh P C C0 w0 a d env o w res:=by
 have key:∀ {ag:Bool} {n:Nat} {y:js},yr P t=I ag→jp P t=I n→(ag=Gb→n=1)→qv x=I y→yi h0 al env hp (.load ag n y)=I res→yh P C C0 w0 a d env o w res:=by
  intro ag n y hg hn FG hy hs
  simp only[yi]at hs
  split at hs
  ·rename_i b q hv
   cases hk:za h0 al b with
   |false=>simp[hk]at hs
   |true=>
    simp only[hk,cond_true]at hs
    split at hs
    ·rename_i cs hcs
     split at hs
     ·rename_i us gZ
      cases ag with
      |true=>
       simp only[cond_true]at hs
       obtain rfl:=qz hs
       exact jh m e (QY m e.cr ho hg hn FG hy hv (.inl ⟨b,q,cs,us,rfl,hcs,gZ,.inl ⟨rfl,rfl⟩⟩))
      |false=>
       simp only[cond_false]at hs
       split at hs
       ·obtain rfl:=qz hs
        exact jh m e (QY m e.cr ho hg hn FG hy hv (.inl ⟨b,q,cs,_,rfl,hcs,gZ,.inr ⟨rfl,rfl⟩⟩))
       ·cases hs
     ·cases hs
    ·cases hs
  ·rename_i z hv
   cases hk:(Bool.xor ag z.isAgg||!(G7 z.flat.length n))with
   |true=>simp[hk]at hs
   |false=>
    simp only[hk,cond_false]at hs
    obtain rfl:=qz hs
    simp only[Bool.or_eq_false_iff,Bool.not_eq_false']at hk
    exact jh m e (QY m e.cr ho hg hn FG hy hv (.inr ⟨rfl,hk.1,Ge hk.2⟩))
  ·rename_i b bL q hv
   cases hk:uQ h0 al b with
   |false=>simp[hk]at hs
   |true=>
    simp only[hk,cond_true]at hs
    split at hs
    ·rename_i sz dN xs gL
     cases dA:(G7 bL dN&&Tp (q+n) (xs.flatMap AVal.flat).length)with
     |false=>rw[dA]at hs;cases hs
     |true=>
      rw[dA]at hs
      simp only[cond_true]at hs
      simp only[Gy]at dA
      obtain rfl:=Ge dA.1
      have hl:=Ny dA.2
      cases ag with
      |true=>
       simp only[cond_true]at hs
       obtain rfl:=qz hs
       exact jh m e (q0d m e.cr ho hg hn hy hv gL hl (.inl ⟨rfl,rfl⟩))
      |false=>
       simp only[cond_false]at hs
       split at hs
       ·rename_i z hz
        obtain rfl:=qz hs
        exact jh m e (q0d m e.cr ho hg hn hy hv gL hl (.inr ⟨rfl,hz⟩))
       ·cases hs
    ·cases hs
  ·cases hs
 by_cases hx:∃g,x=.global g
 ·obtain⟨g,rfl⟩:=hx
  exact je7 m e ho hc hs
 have hc:(match yr P t,jp P t,qv x with
  |some Gb,I 1,I x=>if(dst.map (h.takes.contains ·)).getD Gb then I (cV.cB ((dst.bind fun d=>h.bT.find? fun y=>y.1 == d).map (·.2)) x)else I (bif (dst.map (h.vl.contains ·)).getD Gb then .fB Gb 1 x else .load Gb 1 x)
  |some Gd,I n,I x=>I (bif (dst.map (h.vl.contains ·)).getD Gb then .fB Gd n x else .load Gd n x)
  |_,_,_=>Ga)=I cO:=by
  cases x with
  |global g=>exact absurd ⟨g,rfl⟩ hx
  |_=>exact hc
 split at hc
 ·rename_i y hg hn hy
  split at hc
  ·cases hc
   simp only[qf,qq]at hs
   split at hs
   ·rename_i b q hv
    generalize (za h0 al b&&uR _ q)=kk at hs
    cases kk with
    |false=>simp at hs
    |true=>
     simp only[cond_true]at hs
     split at hs
     ·rename_i cs hcs
      split at hs
      ·rename_i v ow hq
       split at hs
       ·rename_i h' bF
        cases hs
        exact .inl (q41 m e ho hg hy hv hcs hq bF)
       ·cases hs
      ·cases hs
     ·cases hs
   ·cases hs
  ·cases hc
   generalize (dst.map (h.vl.contains ·)).getD Gb=bb at hs
   cases bb with
   |false=>exact key hg hn (fun _=>rfl) hy hs
   |true=>exact key hg hn (fun _=>rfl) hy (q71 hs)
 ·rename_i n y hg hn hy
  cases hc
  generalize (dst.map (h.vl.contains ·)).getD Gb=bb at hs
  cases bb with
  |false=>exact key hg hn (by simp) hy hs
  |true=>exact key hg hn (by simp) hy (q71 hs)
 ·cases hc
theorem jfl (m:az P C ω w0 C0 hp w)(e:aq C ω w w0.heap.size env a.tmps){t:TypeId}{x y}(ho:o.op=.store t x y)(nh:cO.ik=Ga)(hc:cW P h md r dst (.store t x y)=I cO)(hs:qf p xc h0 al env hp cO=I res):yh P C C0 w0 a d env o w res:=by
 simp only[cW]at hc
 split at hc
 ·rename_i n x' y' hn h1 h2
  cases lH:Kp h x' with
  |some s=>rw[lH]at hc;simp only[I.injEq]at hc;subst hc;simp[cV.ik]at nh
  |none=>
  rw[lH]at hc
  simp only[I.injEq]at hc
  subst hc
  simp only[qf,qq]at hs
  split at hs
  ·rename_i b q v e1 e2
   cases hk:za h0 al b with
   |false=>simp[hk]at hs
   |true=>
    simp only[hk,cond_true]at hs
    split at hs
    ·rename_i cs hcs
     split at hs
     ·rename_i s c7
      cases hb:(G7 n 1&&v.cR&&Yj q cs.length)with
      |false=>simp[hb]at hs
      |true=>
       simp only[hb,cond_true]at hs
       simp only[Gy]at hb
       obtain⟨⟨ll,lI⟩,FX⟩:=hb
       obtain rfl:=Ge ll
       split at hs
       ·rename_i h' bF
        cases hs
        exact .inr (.inl (q5a m e ho hn h1 h2 e1 e2 hcs lI (Ye.mp FX) c7 bF))
       ·cases hs
     ·cases hb:G7 v.flat.length n with
      |false=>simp[hb]at hs
      |true=>
       simp only[hb,cond_true]at hs
       split at hs
       ·rename_i eN cq
        split at hs
        ·rename_i h' bF
         obtain rfl:=qz hs
         exact .inr (.inl (jee m e ho hn h1 h2 e1 e2 hcs (Ge hb) cq bF))
        ·cases hs
       ·cases hs
    ·cases hs
  ·cases hs
 ·cases hc
theorem jeq {P}{t:TypeId}{e:TypeId}(h:Qt P t=I e):∃sz,yw P t=I [.b8,.list Gd sz []]:=by
 unfold Qt at h
 split at h
 ·split at h
  ·split at h
   ·split at h
    ·rename_i sz h1 h2
     exact⟨_,h2⟩
    ·cases h
   ·cases h
  ·cases h
 ·cases h
theorem jdp (m:az P C ω w0 C0 hp w)(e:aq C ω w w0.heap.size env a.tmps){t:TypeId}(ho:o.op=.alloc t)(hc:cW P h md r dst (.alloc t)=I cO)(hs:qf p xc h0 al env hp cO=I res):yh P C C0 w0 a d env o w res:=by
 simp only[cW]at hc
 split at hc
 ·rename_i e' he
  cases hc
  obtain⟨sz,hz⟩:=jeq he
  simp only[qf,qq]at hs
  split at hs
  ·rename_i h' hn
   obtain rfl:=qz hs
   exact .inl (jn7 m e ho hz hn)
  ·cases hs
 generalize (dst.map (h.vl.contains ·)).getD Gb=bb at hc
 cases bb with
 |true=>
  simp only[cond_true]at hc
  split at hc
  ·rename_i z hz
   cases hb:z.all qk with
   |false=>rw[hb]at hc;cases hc
   |true=>
    rw[hb]at hc
    simp only[cond_true,I.injEq]at hc
    subst hc
    simp only[qf,qp,I.injEq]at hs
    subst hs
    exact .inl (q90 m e ho hz)
  ·cases hc
 |false=>
 simp only[cond_false]at hc
 obtain⟨z,hz,rfl⟩:=En.1 hc
 simp only[qf,qq]at hs
 cases hb:z.all qk with
 |false=>simp[hb]at hs
 |true=>
  simp only[hb,cond_true]at hs
  split at hs
  ·rename_i h' hn
   obtain rfl:=qz hs
   exact .inl (jd0 m e ho hz (by simpa using hb) hn)
  ·cases hs
theorem joh (m:az P C ω w0 C0 hp w)(e:aq C ω w w0.heap.size env a.tmps){t:TypeId}{x}(ho:o.op=.box t x)(hc:cW P h md r dst (.box t x)=I cO)(hs:qf p xc h0 al env hp cO=I res):yh P C C0 w0 a d env o w res:=by
 simp only[cW]at hc
 split at hc
 ·rename_i n x' hn h1
  cases hc
  generalize (dst.map (h.vl.contains ·)).getD Gb=bb at hs
  cases bb with
  |true=>
   simp only[cond_true,qf,qp]at hs
   split at hs
   ·rename_i v hv
    cases hb:(G7 v.flat.length n&&v.flat.all qk)with
    |false=>simp[hb]at hs
    |true=>
     simp only[hb,cond_true]at hs
     simp only[Gy]at hb
     obtain rfl:=qz hs
     exact .inl (jk5 m e ho h1 hv hb.2)
   ·cases hs
  |false=>
   simp only[cond_false]at hs
   simp only[qf,qq]at hs
   split at hs
   ·rename_i v hv
    cases hb:(G7 v.flat.length n&&v.flat.all qk)with
    |false=>simp[hb]at hs
    |true=>
     simp only[hb,cond_true]at hs
     simp only[Gy]at hb
     split at hs
     ·rename_i h' jE
      obtain rfl:=qz hs
      exact .inl (jox m e ho h1 hv hb.2 jE)
     ·cases hs
   ·cases hs
 ·cases hc
theorem q7c (m:az P C ω w0 C0 hp w)(e:aq C ω w w0.heap.size env a.tmps){i x}(ho:o.op=.extract x i)(hc:cW P h md r dst (.extract x i)=I cO)(hs:qf p xc h0 al env hp cO=I res):yh P C C0 w0 a d env o w res:=by
 simp only[cW]at hc
 obtain⟨y,hy,rfl⟩:=En.1 hc
 simp only[qf,qp]at hs
 split at hs
 ·rename_i vs hv
  obtain⟨u,hu,rfl⟩:=vh hs
  exact jh m e (q61 e.cr ho hy hv hu)
 ·cases hs
theorem q5t (m:az P C ω w0 C0 hp w)(e:aq C ω w w0.heap.size env a.tmps){f xs ys}(ho:o.op=.makeFunc f xs ys)(hc:cW P h md r dst (.makeFunc f xs ys)=I cO)(hs:qf p xc h0 al env hp cO=I res):yh P C C0 w0 a d env o w res:=by
 simp only[cW]at hc
 split at hc
 ·split at hc
  ·rename_i k fT n5 h1 h2
   cases hc
   simp only[qf,qp]at hs
   split at hs
   ·rename_i us vs e1 e2
    obtain rfl:=qz hs
    exact jh m e (q8p e.cr ho h1 h2 e1 e2)
   ·cases hs
  ·cases hc
 ·cases hc
theorem q62 (m:az P C ω w0 C0 hp w)(e:aq C ω w w0.heap.size env a.tmps){t:TypeId}{x}(ho:o.op=.makeMap t x)(hc:cW P h md r dst (.makeMap t x)=I cO)(hs:qf p xc h0 al env hp cO=I res):yh P C C0 w0 a d env o w res:=by
 cases x with
 |some x=>simp[cW]at hc
 |none=>
  simp only[cW]at hc
  split at hc
  ·cases hc
   simp only[qf,qq]at hs
   split at hs
   ·rename_i h' hn
    obtain rfl:=qz hs
    exact .inl (jeb m e ho hn)
   ·cases hs
  ·cases hc
theorem jdk (m:az P C ω w0 C0 hp w)(e:aq C ω w w0.heap.size env a.tmps){t:TypeId}{x}(ho:o.op=.range t x)(hc:cW P h md r dst (.range t x)=I cO)(hs:qf p xc h0 al env hp cO=I res):yh P C C0 w0 a d env o w res:=by
 simp only[cW]at hc
 split at hc
 ·rename_i ht
  obtain⟨y,hy,rfl⟩:=En.1 hc
  simp only[qf,qq]at hs
  split at hs
  ·rename_i s hv
   split at hs
   ·rename_i h' hn
    obtain rfl:=qz hs
    exact .inl (q93 m e ho ht hy hv hn)
   ·cases hs
  ·cases hs
 ·cases hc
theorem ji5 (m:az P C ω w0 C0 hp w)(e:aq C ω w w0.heap.size env a.tmps){x b}(ho:o.op=.next x b)(hc:cW P h md r dst (.next x b)=I cO)(hs:qf p xc h0 al env hp cO=I res):yh P C C0 w0 a d env o w res:=by
 cases b with
 |false=>simp[cW]at hc
 |true=>
  simp only[cW]at hc
  obtain⟨y,hy,rfl⟩:=En.1 hc
  simp only[qf,qq]at hs
  split at hs
  ·rename_i b hv
   cases hk:za h0 al b with
   |false=>simp[hk]at hs
   |true=>
    simp only[hk,cond_true]at hs
    split at hs
    ·rename_i s pos hb
     obtain⟨k1,k2⟩:=jda (d:=d) m e ho hy hv hb
     cases hp:Yj pos s.length with
     |true=>
      simp only[hp,cond_true]at hs
      split at hs
      ·rename_i h' bF
       obtain rfl:=qz hs
       exact .inl (k1 (Ye.mp hp) h' bF)
      ·cases hs
     |false=>
      simp only[hp,cond_false]at hs
      obtain rfl:=qz hs
      exact .inl (k2 (fun h=>by rw[Ye.mpr h]at hp;cases hp))
    ·cases hs
  ·cases hs
theorem jbx (m:az P C ω w0 C0 hp w)(e:aq C ω w w0.heap.size env a.tmps){t:TypeId}{x y ok}(ho:o.op=.lookup t x y ok)(hc:cW P h md r dst (.lookup t x y ok)=I cO)(hs:qf p xc h0 al env hp cO=I res):yh P C C0 w0 a d env o w res:=by
 simp only[cW]at hc
 split at hc
 ·rename_i kt el ht
  split at hc
  ·rename_i kd z x' y' iJ hz h1 h2
   cases hc
   simp only[qf,yi]at hs
   split at hs
   ·rename_i b kv e1 e2
    cases hk:za h0 al b with
    |false=>simp[hk]at hs
    |true=>
     simp only[hk,cond_true]at hs
     split at hs
     ·rename_i es hb
      split at hs
      ·rename_i i v hf
       obtain rfl:=qz hs
       exact jh m e (Rm m e ho ht iJ hz h1 h2 e1 e2 (.inr ⟨b,es,rfl,hb,hf⟩))
      ·rename_i hf
       obtain rfl:=qz hs
       exact jh m e (Rm m e ho ht iJ hz h1 h2 e1 e2 (.inr ⟨b,es,rfl,hb,hf⟩))
      ·cases hs
     ·cases hs
   ·rename_i kv e1 e2
    obtain rfl:=qz hs
    exact jh m e (Rm m e ho ht iJ hz h1 h2 e1 e2 (.inl ⟨rfl,rfl⟩))
   ·cases hs
  ·cases hc
 ·cases hc
theorem qoh (m:az P C ω w0 C0 hp w)(e:aq C ω w w0.heap.size env a.tmps){t:TypeId}{x y z}(ho:o.op=.mapUpdate t x y z∨o.op=.insert t x y z)(hc:cW P h md r dst (.mapUpdate t x y z)=I cO)(hs:qf p xc h0 al env hp cO=I res):yh P C C0 w0 a d env o w res:=by
 simp only[cW]at hc
 split at hc
 ·rename_i kt el ht
  split at hc
  ·rename_i kd x' y' z' iJ h1 h2 h3
   cases hc
   simp only[qf,qq]at hs
   split at hs
   ·rename_i b kv v e1 e2 e3
    cases hk:za h0 al b with
    |false=>simp[hk]at hs
    |true=>
     simp only[hk,cond_true]at hs
     split at hs
     ·rename_i es hb
      split at hs
      ·rename_i i u hf
       split at hs
       ·rename_i h' bF
        obtain rfl:=qz hs
        exact .inr (.inl (qop m e ho ht iJ h1 h2 h3 e1 e2 e3 hb (.inl ⟨i,u,hf,bF⟩)))
       ·cases hs
      ·rename_i hf
       cases hl:Tp es.length 1073741824 with
       |false=>simp[hl]at hs
       |true=>
        simp only[hl,cond_true]at hs
        split at hs
        ·rename_i h' bF
         obtain rfl:=qz hs
         exact .inr (.inl (qop m e ho ht iJ h1 h2 h3 e1 e2 e3 hb (.inr ⟨hf,bF⟩)))
        ·cases hs
      ·cases hs
     ·cases hs
   ·cases hs
  ·cases hc
 ·cases hc
end
section
variable {P:Program}{p:jz}{xc:XC}{C C0:aM}{ω:Nat→Option Loc}{w w0:World}{hp:qi}{env:Env}{a:Act}{o:Oper}{d:Loc}{h:qj}{md:eE}{r h0:Nat}{dst:Option Nat}{al:Option (List Nat)}{cO:cV}{res:bj}
theorem vi (w:World){d}{t:TypeId}{x y b}{u:TypeDesc}(h:(∃e,u=.slice e∧y=.slice Ga 0 0∧∃q l c,x=.slice q l c∧b=q.isNone)∨(∃e,u=.pointer e∧y=.pointer Ga∧∃q,x=.pointer q∧b=q.isNone) ∨
  (∃k e,u=.map k e∧y=.map Ga∧∃q,x=.map q∧b=q.isNone)∨(∃k e v,u=.func k e v∧y=.nilFunc∧((x=.nilFunc∧b=Gd)∨∃f i j,x=.func f i j∧b=Gb))) (ht:P.underlying t=I u):
  (Op.equalIn (d+1) t x y).run P w=.ok b w:=by
 rcases h with⟨e,rfl,rfl,q,l,c,rfl,rfl⟩|⟨e,rfl,rfl,q,rfl,rfl⟩|⟨k,e,rfl,rfl,q,rfl,rfl⟩|⟨k,e,v,rfl,rfl,⟨rfl,rfl⟩|⟨f,i,j,rfl,rfl⟩⟩
 ·cases q<;>simp[Op.equalIn,run_underlying ht]
 ·cases q<;>simp[Op.equalIn,run_underlying ht]
 ·cases q<;>simp[Op.equalIn,run_underlying ht]
 ·simp[Op.equalIn,run_underlying ht]
 ·simp[Op.equalIn,run_underlying ht]
theorem vj (m:az P C ω w0 C0 hp w)(e:aq C ω w w0.heap.size env a.tmps){op}{t u:TypeId}{x y neq b c}(ho:o.op=.binOp op t x y u)(hop:op=if neq then .neq else .eql)(hy:a.eval y=c)
  (bI:(∀k n,a.eval x≠.int k n)∧(∀s,a.eval x≠.string s)∧(∀k n,a.eval x≠.float k n)∧(∀k n m,a.eval x≠.complex k n m)) (dm:∀cs,a.eval x≠.agg cs) (QO:a.eval x≠.nilIface)
  (hq:(Op.equal t (a.eval x) c).run P w=.ok b w) {z} (hz:z=bif neq then !b else b):yh P C C0 w0 a d env o w ⟨.bool z,Gb,Ga,hp⟩:=by
 subst hz
 exact jh m e (jfd ho hop hy bI dm QO hq)
theorem KO (m:az P C ω w0 C0 hp w)(e:aq C ω w w0.heap.size env a.tmps){op}{t u:TypeId}{x y y' neq k c}(ho:o.op=.binOp op t x y u)(hop:op=if neq then .neq else .eql)(hx:qv x=I y')(hy:y=.const c)
  (hk:(k=0∧(∃el,P.underlying t=I (.slice el))∧c=.slice Ga 0 0)∨(k=1∧(∃el,P.underlying t=I (.pointer el))∧c=.pointer Ga)∨(k=2∧(∃k v,P.underlying t=I (.map k v))∧c=.map Ga)∨(k=3∧(∃a b c,P.underlying t=I (.func a b c))∧c=.nilFunc))
  (hs:qf p xc h0 al env hp (.fC k neq y')=I res):yh P C C0 w0 a d env o w res:=by
 have pC:a.eval y=c:=by subst hy;simp[Act.eval]
 rcases hk with⟨rfl,⟨el,ht⟩,rfl⟩|⟨rfl,⟨el,ht⟩,rfl⟩|⟨rfl,⟨k,el,ht⟩,rfl⟩|⟨rfl,⟨k,el,q,ht⟩,rfl⟩
 ·simp only[qf,qp]at hs
  split at hs<;>first|(exfalso;omega)|skip
  ·rename_i n sz xs _ hv
   obtain rfl:=qz hs
   rcases(qx e.cr hx hv).dc with⟨rfl,rfl,h1⟩|⟨h1,r,q,cap,h2,_⟩|⟨h1,_,ad,_,h2⟩
   ·exact vj m e ho hop pC (by simp[h1]) (by simp[h1]) (by simp[h1]) (b:=true) (by rw[h1];exact vi w (d:=9999) (by simp) ht) (by cases neq<;>rfl)
   all_goals
    subst h1
    exact vj m e ho hop pC (by simp[h2]) (by simp[h2]) (by simp[h2]) (b:=false) (by rw[h2];exact vi w (d:=9999) (by simp) ht) (by cases neq<;>rfl)
  ·rename_i b q n _ hv
   obtain rfl:=qz hs
   have hr:=qx e.cr hx hv
   generalize h2:a.eval x=ev at hr
   cases hr with
   |ms b o len r cap hb hl=>
    exact vj m e ho hop pC (by simp[h2]) (by simp[h2]) (by simp[h2]) (b:=false) (by rw[h2];exact vi w (d:=9999) (by simp) ht) (by cases neq<;>rfl)
  ·cases hs
 ·simp only[qf,qp]at hs
  split at hs<;>first|(exfalso;omega)|skip
  ·rename_i _ hv
   obtain rfl:=qz hs
   have hr:=qx e.cr hx hv
   generalize h2:a.eval x=ev at hr
   cases hr
   exact vj m e ho hop pC (by simp[h2]) (by simp[h2]) (by simp[h2]) (b:=true) (by rw[h2];exact vi w (d:=9999) (by simp) ht) (by cases neq<;>rfl)
  ·rename_i _ hv
   obtain rfl:=qz hs
   obtain⟨r,hr,h2⟩:=(qx e.cr hx hv).dz
   exact vj m e ho hop pC (by simp[h2]) (by simp[h2]) (by simp[h2]) (b:=false) (by rw[h2];exact vi w (d:=9999) (by simp) ht) (by cases neq<;>rfl)
  ·rename_i _ hv
   obtain rfl:=qz hs
   obtain⟨r,q,h2,_⟩:=(qx e.cr hx hv).fb
   exact vj m e ho hop pC (by simp[h2]) (by simp[h2]) (by simp[h2]) (b:=false) (by rw[h2];exact vi w (d:=9999) (by simp) ht) (by cases neq<;>rfl)
  ·cases hs
 ·simp only[qf,qp]at hs
  split at hs<;>first|(exfalso;omega)|skip
  ·rename_i _ hv
   obtain rfl:=qz hs
   have hr:=qx e.cr hx hv
   generalize h2:a.eval x=ev at hr
   cases hr
   exact vj m e ho hop pC (by simp[h2]) (by simp[h2]) (by simp[h2]) (b:=true) (by rw[h2];exact vi w (d:=9999) (by simp) ht) (by cases neq<;>rfl)
  ·rename_i _ hv
   obtain rfl:=qz hs
   have hr:=qx e.cr hx hv
   generalize h2:a.eval x=ev at hr
   cases hr
   exact vj m e ho hop pC (by simp[h2]) (by simp[h2]) (by simp[h2]) (b:=false) (by rw[h2];exact vi w (d:=9999) (by simp) ht) (by cases neq<;>rfl)
  ·cases hs
 ·simp only[qf,qp]at hs
  split at hs<;>first|(exfalso;omega)|skip
  ·rename_i _ hv
   obtain rfl:=qz hs
   have hr:=qx e.cr hx hv
   generalize h2:a.eval x=ev at hr
   cases hr
   exact vj m e ho hop pC (by simp[h2]) (by simp[h2]) (by simp[h2]) (b:=true) (by rw[h2];exact vi w (d:=9999) (by simp) ht) (by cases neq<;>rfl)
  ·rename_i _ hv
   obtain rfl:=qz hs
   have hr:=qx e.cr hx hv
   generalize h2:a.eval x=ev at hr
   cases hr
   exact vj m e ho hop pC (by simp[h2]) (by simp[h2]) (by simp[h2]) (b:=false) (by rw[h2];exact vi w (d:=9999) (by simp) ht) (by cases neq<;>rfl)
  ·cases hs
theorem Rp (m:az P C ω w0 C0 hp w)(e:aq C ω w w0.heap.size env a.tmps){op}{t u:TypeId}{x y x' y'}(ho:o.op=.binOp op t x y u)(h1:qv x=I x')(h2:qv y=I y')(hs:qf p xc h0 al env hp (.bin op x' y')=I res):yh P C C0 w0 a d env o w res:=by
 simp only[qf,qp]at hs
 split at hs
 ·rename_i u v e1 e2
  obtain⟨z,hz,rfl⟩:=vh hs
  exact jh m e (joq e.cr ho h1 h2 e1 e2 hz)
 ·cases hs
theorem qud (m:az P C ω w0 C0 hp w)(e:aq C ω w w0.heap.size env a.tmps){op}{t u:TypeId}{x y neq}(ho:o.op=.binOp op t x y u)(hop:op=if neq then .neq else .eql)(hc:Dt P op neq t x y=I cO)(hs:qf p xc h0 al env hp cO=I res):yh P C C0 w0 a d env o w res:=by
 have dZ:Dt P op neq t x y=I cO:=hc
 unfold Dt at dZ
 have eqs:∀ {ks:List Kd} {x' y':js},yr P t=I Gd→P.eqGuardType P.depth t=Gb→uT P Kn t=I ks→qv x=I x'→qv y=I y'→qf p xc h0 al env hp (.eqs ks neq x' y')=I res→yh P C C0 w0 a d env o w res:=by
  intro ks x' y' dm hg hk h1 h2 hs
  simp only[qf,qp]at hs
  split at hs
  ·rename_i u v e1 e2
   cases hb:(G7 u.length ks.length&&G7 v.length ks.length)with
   |false=>simp[hb]at hs
   |true=>
    simp only[hb,cond_true]at hs
    simp only[Gy]at hb
    split at hs
    ·rename_i b hq
     obtain rfl:=qz hs
     exact jh m e (jn5 e.cr ho hop h1 h2 e1 e2 hg hk dm (Ge hb.1) (Ge hb.2) hq)
    ·cases hs
  ·cases hs
 split at dZ
 ·split at dZ
  ·rename_i h1 h2;cases dZ;exact Rp m e ho h1 h2 hs
  ·cases dZ
 ·split at dZ
  ·rename_i h1 h2;cases dZ;exact Rp m e ho h1 h2 hs
  ·cases dZ
 ·rename_i ht
  split at dZ
  ·rename_i h1 h2
   cases dZ
   simp only[qf,qp]at hs
   split at hs
   ·rename_i u v e1 e2
    obtain rfl:=qz hs
    exact jh m e (joi e.cr ho hop h1 h2 e1 e2 ht)
   ·cases hs
  ·cases dZ
 ·rename_i fs ht
  split at dZ
  ·rename_i hg
   split at dZ
   ·rename_i ks x' y' hk h1 h2;cases dZ;exact eqs (by simp[yr,ht]) (by simpa using hg) hk h1 h2 hs
   ·cases dZ
  ·cases dZ
 ·rename_i fs _ ht
  split at dZ
  ·rename_i hg
   split at dZ
   ·rename_i ks x' y' hk h1 h2;cases dZ;exact eqs (by simp[yr,ht]) (by simpa using hg) hk h1 h2 hs
   ·cases dZ
  ·cases dZ
 ·rename_i el ht
  split at dZ
  ·obtain⟨x',hx,rfl⟩:=En.1 dZ
   exact KO m e ho hop hx rfl (.inl ⟨rfl,⟨el,ht⟩,rfl⟩) hs
  ·cases dZ
 ·rename_i el ht
  split at dZ
  ·obtain⟨x',hx,rfl⟩:=En.1 dZ
   exact KO m e ho hop hx rfl (.inr (.inl ⟨rfl,⟨el,ht⟩,rfl⟩)) hs
  ·cases dZ
 ·rename_i el _ ht
  split at dZ
  ·obtain⟨x',hx,rfl⟩:=En.1 dZ
   exact KO m e ho hop hx rfl (.inr (.inr (.inl ⟨rfl,⟨_,_,ht⟩,rfl⟩))) hs
  ·cases dZ
 ·rename_i el _ _ ht
  split at dZ
  ·obtain⟨x',hx,rfl⟩:=En.1 dZ
   exact KO m e ho hop hx rfl (.inr (.inr (.inr ⟨rfl,⟨_,_,_,ht⟩,rfl⟩))) hs
  ·cases dZ
 ·cases dZ
theorem jn8 (m:az P C ω w0 C0 hp w)(e:aq C ω w w0.heap.size env a.tmps){op}{t u:TypeId}{x y}(ho:o.op=.binOp op t x y u)(hc:cW P h md r dst (.binOp op t x y u)=I cO)(hs:qf p xc h0 al env hp cO=I res):yh P C C0 w0 a d env o w res:=by
 simp only[cW]at hc
 unfold Qv at hc
 split at hc
 ·exact qud (neq:=false) m e ho rfl hc hs
 ·exact qud (neq:=true) m e ho rfl hc hs
 ·split at hc
  ·rename_i h1 h2;cases hc;exact Rp m e ho h1 h2 hs
  ·cases hc
end
end Go.Abs
