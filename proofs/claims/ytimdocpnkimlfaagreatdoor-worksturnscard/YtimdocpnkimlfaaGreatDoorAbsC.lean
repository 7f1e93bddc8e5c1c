/- Operations that make a new slice. -/
import Derived.Test.YtimdocpnkimlfaaGreatDoorAbsA
set_option linter.unusedVariables false
set_option linter.unusedSimpArgs false
open Option renaming some→I,map_eq_some_iff→En,none→Es,isSome_none→If,isSome_iff_exists→Ld
open Bool renaming false→E9,true→Ga,and_eq_true→Gu,false_eq_true→G3,or_false→Yb
open Nat renaming eq_of_beq_eq_true→Gd,le_refl→Gl,mul_le_mul_right→Gt,beq→Gx,le_trans→G7,add_mul→Jg,le_of_ble_eq_true→Jj,mul_le_mul→Jn,beq_refl→Rt,mul_eq_zero→Ry,ble→St,succ_mul→T6,add_zero→T7,zero_add→Xx,blt_eq→X9,blt→Yq
open List renaming replicate→Ge,getElem?_append_left→Gf,getElem?_eq_some_iff→Gi,getElem?_append_right→Gj,getElem?_eq_getElem→Gn,getElem?_toArray→Gp,getElem?_set_self→Gz,getElem?_take_of_lt→G4,mem_of_getElem?→G5,append_assoc→Ha,getElem?_set_ne→Hb,replicate_succ→H9,mem_replicate→Ie,mem_append→Jc,getElem?_map→Jd,getElem?_eq_none→Je,flatMap_cons→Jf,length_set→Jo,length_append→Le,getElem?_cons_zero→L9,getElem?_cons_succ→Nk,flatten_cons→Nn,size_toArray→Np,mem_of_mem_take→Qe,getElem?_of_mem→Qt,nil_append→Rg,getElem?_drop→Rh,ext_getElem?→Rm,all_eq_true→Rq,mem_flatten→Rr,mem_map→Rs,mem_cons_of_mem→R0,flatMap_append→S4,getElem?_take→S5,mem_cons_self→S6,set_set→Xw,getElem?_set→Xy,length_take→Xz,length_map→X2,mem_cons→Ya,take→Yc,map_cons→Ye
open Array renaming getElem?_toList→Gm,getD_eq_getD_getElem?→Gs,getElem?_eq_some_iff→Gv,ext'→Gy,range→G2,getElem?_append_left→G6,size_append→Rp
open Ne renaming symm→Rn
namespace Go.Abs
section
variable {P:Program}{C C0:aK}{ω:Nat→Option Loc}{w w0:World}{hp:qh}{env:Env}{a:Act}{o:Oper}{tmps:Array Value}{d:Loc}
theorem ak.strip {B}(e:ak C ω w B env tmps)(s:Option Nat):ak C ω w B (z8 env s) tmps:=by
 cases s with
 |none=>exact e
 |some s=>
  simp only[z8]
  split
  ·rename_i v o hl
   intro t x hx
   simp only[ji]at hx
   cases hb:Gx s t with
   |false=>rw[hb]at hx;simp at hx;exact e t x hx
   |true=>
    rw[hb]at hx
    simp at hx
    subst hx
    obtain rfl:=Gd hb
    obtain⟨u,h1,h2,_⟩:=e s _ hl
    exact⟨u,h1,h2,by simp⟩
  ·exact e
theorem q3o (m:az P C ω w0 C0 hp w)(e:ak C ω w w0.heap.size env tmps){x v}(h:bT C x v):zi P C0 w0 C tmps d env ⟨x,E9,Es,hp⟩ v w:=
 ⟨C,ω,aK.le_refl C,m,e,h,by simp⟩
theorem KA (m:az P C ω w0 C0 hp w)(e:ak C ω w w0.heap.size env tmps)(cells:Array Value)(t:TypeId)(xs:List AVal)(sz cap:Nat)(vs:List Value)(hr:aW C (xs.flatMap AVal.flat) vs)
  (hv:∀(j:Nat) v,vs[j]?=I v→cells[j]?=I v) (h1:∀v∈vs,v.oneCell'=Ga) (hs:∀x∈xs,x.flat.length=sz) (hcap:xs.length≤cap) (cG:cap*sz≤cells.size) (s:Option Nat):
  zi P C0 w0 C tmps d env ⟨.list E9 sz xs,Ga,s,hp⟩ (.slice (I ⟨w.heap.size,0,Es⟩) xs.length cap) (w.alloc (.cells cells t)):=by
 have hn:∀o,C.K w.heap.size o=Es:=m.jV _ (Gl _)
 have hx:Ext w (w.alloc (.cells cells t)):=Ext.alloc w _ (fun c t fr h=>by cases h;rfl)
 have m1:=(m.newRow cells t vs hv h1)
 have QA:∀ℓ x v,aO C ω w w0.heap.size ℓ x v→aO (C.put w.heap.size 0 vs) (cR ω w.heap.size d) (w.alloc (.cells cells t)) w0.heap.size ℓ x v:=fun ℓ x v ho=>((ho.fresh (Gl _)).put vs (.inl (Gl _))).ext hx
 have hle:=aK.gC (C:=C) (off:=0) vs (fun o _=>hn o)
 have hcells:=aK.fi (C:=C) (off:=0) (fun o _=>hn o) hr
 have hl:vs.length=xs.length*sz:=by rw[hr.length,yj xs hs]
 refine⟨C.put w.heap.size 0 vs,cR ω w.heap.size d,hle,?_,?_,?_,?_⟩
 ·exact { m1 with box:=fun b x r fj hb=>((m.box b x r fj hb).mono hle fun j y v ho=>(ho.fresh (Gl _)).put vs (.inl (Gl _))).ext hx }
 ·refine ak.strip ?_ s
  exact fun t x hx=>let ⟨v,h1,h2,h3⟩:=e t x hx; ⟨v,h1,aH.mono hle h2,fun h=>QA _ _ _ (h3 h)⟩
 ·exact .list _ _ _ _ _ hcap (bA.eU hcells hs)
 ·intro _
  refine⟨by simp[cR],.inl m.size,?_,rfl,rfl,⟨cells,t,by rw[vU,if_pos rfl],by simpa using cG,eV.sized hs⟩,?_⟩
  ·intro b hb
   have:=(m.lt b _ hb).1
   simp at this
  ·intro o ho
   simp only[aK.put]
   rw[if_neg (by simp at ho;omega)]
   exact hn o
theorem KB {zs:List Value}{sz}(hz:zs.length=sz)(hs:0<sz):∀(n:Nat),(List.range (n*sz)).map (fun i=>zs.toArray[i % zs.toArray.size]!)=(Ge n zs).flatten
 |0=>by simp
 |n+1=>by
  rw[T6,List.range_add,List.map_append,KB hz hs n,List.replicate_succ',List.flatten_append]
  congr 1
  simp only[List.map_map,Nn,List.flatten_nil,List.append_nil]
  apply Rm
  intro j
  rw[Jd]
  by_cases hj:j<sz
  ·rw[List.getElem?_range hj]
   simp only[Option.map_some,Function.comp,Np,hz]
   rw[Nat.mul_add_mod_self_right,Nat.mod_eq_of_lt hj]
   rw[Gn (by omega),getElem!_pos _ _ (by simpa[hz]using hj)]
   simp
  ·rw[Je (by simpa using hj),Je (by omega)]
   rfl
theorem aW.replicate {zs vs}(h:aW C zs vs):∀n:Nat,aW C (Ge n zs).flatten (Ge n vs).flatten
 |0=>.nil
 |n+1=>by
  rw[H9,H9,Nn,Nn]
  exact aW.append h (aW.replicate h n)
def uN (sz:Nat)(zero:List AVal):AVal:=bif Gx sz 1 then zero.headD .undef else .agg zero
theorem QB {sz zero}(hz:zero.length=sz)(hs:∀z∈zero,z.isAgg=E9):(uN sz zero).flat=zero:=by
 unfold uN
 cases hb:Gx sz 1 with
 |false=>rfl
 |true=>
  obtain rfl:=Gd hb
  obtain⟨z,rfl⟩:=List.length_eq_one_iff.1 hz
  exact qbv (hs z (by simp))
theorem qlx {sz zero}(hz:zero.length=sz)(hs:∀z∈zero,z.isAgg=E9)(n:Nat):(Ge n (uN sz zero)).flatMap AVal.flat=(Ge n zero).flatten:=by
 induction n with
 |zero=>rfl
 |succ n ih=>rw[H9,Jf,QB hz hs,ih,H9,Nn]
theorem q0l {v x}(h:Di v=I x):ql x=Ga∧v.oneCell'=Ga:=by
 unfold Di at h
 split at h<;>first|cases h|skip
 all_goals exact⟨rfl,rfl⟩
theorem ql8:∀ {vs:List Value} {xs:List AVal},vT vs=I xs→(∀x∈xs,ql x=Ga)∧∀v∈vs,v.oneCell'=Ga
 | [],xs,h=>by simp[vT]at h;subst h;simp
 |v::vs,xs,h=>by
  simp only[vT]at h
  split at h
  ·rename_i x hx
   split at h
   ·rename_i ys mY
    cases h
    obtain⟨h1,h2⟩:=q0l hx
    obtain⟨h3,h4⟩:=ql8 mY
    exact⟨by simpa using⟨h1,h3⟩,by simpa using⟨h2,h4⟩⟩
   ·cases h
  ·cases h
theorem qli {x}(h:ql x=Ga):x.isAgg=E9:=by cases x<;>simp[ql,AVal.isAgg]at *
theorem uO {t:TypeId}{z}(h:yr P t=I z):(∀x∈z,ql x=Ga)∧∃v,(∀w,(zeroValue t).run P w=.ok v w)∧aW C z v.cells.toList∧∀u∈v.cells.toList,u.oneCell'=Ga:=by
 unfold yr at h
 split at h
 ·rename_i i hi
  split at h
  ·rename_i v hv
   obtain⟨h1,h2⟩:=ql8 h
   exact⟨h1,v,fun w=>by simp[zeroValue,typeInfo,hi,hv],Kr C h,h2⟩
  ·cases h
 ·cases h
theorem QC {x v}(h:bT C x v)(hs:ql x=Ga):v.oneCell'=Ga:=by
 cases h<;>first|rfl|(simp[ql]at hs)
theorem Ao {xs}:∀ {vs:List Value},aW C xs vs→(∀x∈xs,ql x=Ga)→∀v∈vs,v.oneCell'=Ga:=by
 induction xs with
 |nil=>intro vs h _ v hv;cases h;cases hv
 |cons x xs ih=>
  intro vs h hs v hv
  cases h with
  |cons _ _ u us hx h=>
   rcases Ya.1 hv with rfl|hv
   ·exact QC hx (hs x (by simp))
   ·exact ih h (fun y hy=>hs y (by simp[hy])) v hv
theorem qzz:∀ (qs:List (Nat×List AVal)) (xs ys:List AVal),jU xs qs=I ys→(∀x∈xs,ql x=Ga)→(∀q∈qs,∀x∈q.2,ql x=Ga)→∀y∈ys,ql y=Ga
 | [],xs,ys,h,hx,_=>by simp[jU]at h;subst h;exact hx
 |(off,vs)::qs,xs,ys,h,hx,hq=>by
  simp only[jU]at h
  cases hb:St (off+vs.length) xs.length with
  |false=>simp[hb]at h
  |true=>
   simp only[hb,cond_true]at h
   refine qzz qs _ ys h ?_ (fun q h=>hq q (by simp[h]))
   intro x h
   simp only[Jc]at h
   rcases h with(h|h)|h
   ·exact hx x (Qe h)
   ·exact hq (off,vs) (by simp) x h
   ·exact hx x (List.mem_of_mem_drop h)
theorem qjm {sz}:∀(ps:List (Nat×js)) (qs:List (Nat×AVal)),yc env sz ps=I qs→∀q∈qs,∀x∈q.2.flat,ql x=Ga
 | [],qs,h=>by simp[yc]at h;subst h;simp
 |(i,x)::ps,qs,h=>by
  simp only[yc]at h
  split at h
  ·rename_i v iN
   cases hb:(Gx v.flat.length sz&&v.flat.all ql)with
   |false=>simp[hb]at h
   |true=>
    simp only[hb,cond_true]at h
    simp only[Gu,Rq]at hb
    split at h
    ·rename_i r hr
     cases h
     intro q hq
     rcases Ya.1 hq with rfl|hq
     ·exact hb.2
     ·exact qjm ps r hr q hq
    ·cases h
  ·cases h
theorem qlq (e:ak C ω w w0.heap.size env a.tmps){t el:TypeId}{ps len sz z fR qs xs}
  (ho:o.op=.buildSlice t len ps) (ht:P.underlying t=I (.slice el)) (hn:jm P el=I sz) (hz:yr P el=I z) (hlen:sz*len≤65536) (h0:0<sz) (ij:z.length=sz)
  (mI:xJ ps.toList=I fR) (hq:yc env sz fR=I qs) (hx:lI (Ge len (uN sz z)) qs=I xs):
  ∃ds,(execOp a.eval o).run P w=.ok (.value (.slice (I ⟨w.heap.size,0,Es⟩) len len)) (w.alloc (.cells ds el))∧aW C (xs.flatMap AVal.flat) ds.toList∧(∀v∈ds.toList,v.oneCell'=Ga)∧(∀x∈xs,x.flat.length=sz)∧xs.length=len∧len*sz≤ds.size:=by
 obtain⟨qE,zv,lu,cT,lN⟩:=uO (C:=C) hz
 have xP:∀x∈z,x.isAgg=E9:=fun x h=>qli (qE x h)
 have nc:zv.cells.toList.length=sz:=by rw[cT.length,ij]
 have jX:((G2 (len*sz)).map (fun i=>zv.cells[i % zv.cells.size]!)).toList=(Ge len zv.cells.toList).flatten:=by
  have:=KB nc h0 len
  simpa using this
 obtain⟨qJ,hqs⟩:=qn9 e.ct ps.toList fR qs mI hq
 obtain⟨hf,nf,mZ⟩:=qwy (sz:=sz) qs _ xs hx (by
  intro x h
  obtain⟨_,rfl⟩:=Ie.1 h
  rw[QB ij xP,ij]) hqs
 rw[qlx ij xP]at hf
 obtain⟨ds,hd,hdr⟩:=Kz _ _ _ _ ((G2 (len*sz)).map (fun i=>zv.cells[i % zv.cells.size]!)) (by rw[jX];exact cT.replicate len) hf qJ
 have jY:xs.length=len:=by simpa using mZ
 have hsc:∀y∈xs.flatMap AVal.flat,ql y=Ga:=qzz _ _ _ hf (by
  intro x h
  rw[Rr]at h
  obtain⟨l,h1,h2⟩:=h
  obtain⟨_,rfl⟩:=Ie.1 h1
  exact qE x h2) (by
  intro q hq1 x Ak
  obtain⟨p,jZ,rfl⟩:=Rs.1 hq1
  exact qjm fR qs hq p jZ x Ak)
 have Ap:ds.toList.length=len*sz:=by rw[hdr.length,yj xs nf,jY]
 refine⟨ds,?_,hdr,Ao hdr hsc,nf,jY,by simp at Ap;omega⟩
 ·have uM:(ps.map fun(x:Nat×Operand)=>(x.1,a.eval x.2)).toList=ps.toList.map fun x=>(x.1,a.eval x.2):=by simp
  have hle:¬(16777216<len*sz):=by rw[Nat.mul_comm];omega
  by_cases Fs:len=0
  ·subst Fs
   have hr:G2 0=#[]:=rfl
   rw[Nat.zero_mul,hr,Array.map_empty]at hd
   simp only[execOp,ho,Instr.buildSlice,Sem.run_bind,run_underlying ht,Result.andThen_ok,yl hn,uM]
   simp[hr,hd,newRow]
  ·have bL:¬(len*sz=0):=by
    intro h
    rcases Ry.1 h with h|h<;>omega
   simp only[execOp,ho,Instr.buildSlice,Sem.run_bind,run_underlying ht,Result.andThen_ok,yl hn,uM]
   simp[hle,bL,lu,hd,newRow]
theorem qxs (m:az P C ω w0 C0 hp w)(e:ak C ω w w0.heap.size env a.tmps){t el:TypeId}{ps len sz z fR qs xs}
  (ho:o.op=.buildSlice t len ps) (ht:P.underlying t=I (.slice el)) (hn:jm P el=I sz) (hz:yr P el=I z) (hlen:sz*len≤65536) (h0:0<sz) (ij:z.length=sz)
  (mI:xJ ps.toList=I fR) (hq:yc env sz fR=I qs) (hx:lI (Ge len (uN sz z)) qs=I xs):
  ∃v w',(execOp a.eval o).run P w=.ok (.value v) w'∧zi P C0 w0 C a.tmps d env ⟨.list E9 sz xs,Ga,Es,hp⟩ v w':=by
 obtain⟨ds,bE,hdr,h1,nf,jY,cG⟩:=qlq (C:=C) (ω:=ω) (w:=w) (w0:=w0) e ho ht hn hz hlen h0 ij mI hq hx
 refine⟨_,_,bE,?_⟩
 have eY:=KA (d:=d) (tmps:=a.tmps) m e ds el xs sz len ds.toList hdr (by intro j v h;simpa using h) h1 nf (by omega) cG Es
 rw[jY]at eY
 exact eY
theorem q6z (m:az P C ω w0 C0 hp w)(e:ak C ω w w0.heap.size env a.tmps){t el:TypeId}{x y:Operand}{x' y':js}{n sz b:Nat}{z}
  (ho:o.op=.makeSlice t x y) (ht:P.underlying t=I (.slice el)) (hn:jm P el=I sz) (hb:nY P el=I b) (hz:yr P el=I z) (h0:0<sz) (ij:z.length=sz)
  (h1:qt x=I x') (h2:qt y=I y') (e1:qi env x'=I (.int .i64 (n:Int))) (e2:qi env y'=I (.int .i64 (n:Int))) (hle:n≤1073741824) (jK:b≤4096):
  ∃v w',(execOp a.eval o).run P w=.ok (.value v) w'∧zi P C0 w0 C a.tmps d env ⟨.list E9 sz (Ge n (uN sz z)),Ga,Es,hp⟩ v w':=by
 obtain⟨qE,zv,lu,cT,lN⟩:=uO (C:=C) hz
 have xP:∀x∈z,x.isAgg=E9:=fun x h=>qli (qE x h)
 have nc:zv.cells.toList.length=sz:=by rw[cT.length,ij]
 have jX:((G2 (n*sz)).map (fun i=>zv.cells[i % zv.cells.size]!)).toList=(Ge n zv.cells.toList).flatten:=by
  have:=KB nc h0 n
  simpa using this
 have r1:=(qv e.ct h1 e1).bW
 have r2:=(qv e.ct h2 e2).bW
 have nf:∀x∈Ge n (uN sz z),x.flat.length=sz:=by
  intro x h
  obtain⟨_,rfl⟩:=Ie.1 h
  rw[QB ij xP,ij]
 have fZ:aW C ((Ge n (uN sz z)).flatMap AVal.flat) ((G2 (n*sz)).map (fun i=>zv.cells[i % zv.cells.size]!)).toList:=by
  rw[qlx ij xP,jX];exact cT.replicate n
 obtain⟨i,hi,qK⟩:∃i,P.info? el=I i∧i.bytes=b:=by
  unfold nY at hb
  cases hi:P.info? el with
  |none=>simp[hi]at hb
  |some i=>exact⟨i,rfl,by simpa[hi]using hb⟩
 have kK:i.size=sz:=by
  unfold jm at hn
  rw[hi]at hn
  simpa using hn
 have qL:IntKind.i64.wrap (n:Int)=n:=by
  rw[←Aj];unfold qe
  have:pZ .i64 (n:Int)=Ga:=by simp[pZ];exact G7 hle (by decide)
  rw[this];rfl
 have Ah:b*n≤281474976710656:=G7 (Jn jK hle) (by decide)
 have eY:=KA (d:=d) (tmps:=a.tmps) m e ((G2 (n*sz)).map (fun i=>zv.cells[i % zv.cells.size]!)) el (Ge n (uN sz z)) sz n _ fZ (by intro j v h;rw[Gm]at h;exact h) (by
   rw[jX]
   intro v hv
   rw[Rr]at hv
   obtain⟨l,q1,q2⟩:=hv
   obtain⟨_,rfl⟩:=Ie.1 q1
   exact lN v q2) nf (by simp) (by simp) Es
 rw[List.length_replicate]at eY
 refine⟨_,_,?_,eY⟩
 have c1:¬((b:Int)*(n:Int) > 2^48):=by
  have h1:((b*n:Nat):Int)≤281474976710656:=Int.ofNat_le.2 Ah
  rw[Int.natCast_mul]at h1
  have h2:(2:Int)^48=281474976710656:=by decide
  rw[h2];omega
 have c2:¬((n:Int)<0):=by omega
 have hr:G2 0=#[]:=rfl
 simp only[execOp,ho,Instr.makeSlice,Sem.run_bind,run_underlying ht,r1,r2,asInt,asIntOf,Sem.run_pure,Result.andThen_ok,typeInfo,run_program,hi,qK,qL,c2,c1,decide_false,Yb,G3,if_false,Int.lt_irrefl,gt_iff_lt,run_askRoom,Int.toNat_natCast,yl hn,newRow]
 by_cases uL:n=0
 ·subst uL
  simp[hr]
 ·have bL:¬(n*sz=0):=by
   intro h
   rcases Ry.1 h with h|h<;>omega
  simp[bL,lu]
end
structure gD (w w':World)(r:Nat)(cs:Array Value):Prop where
 at_:∃t,w'.heap[r]?=I (.cells cs t (0,0))
 size:w'.heap.size=w.heap.size
 other:∀k,k≠r→w'.heap[k]?=w.heap[k]?
 os:w'.os=w.os
 output:w'.output=w.output
theorem Ft {w r old}{t:TypeId}(h:w.heap[r]?=I (.cells old t (0,0)))(cs:Array Value):gD w (w.setRow r cs) r cs:=
 ⟨⟨t,setRow_heap w r old cs t (0,0) h⟩,setRow_size w r cs,fun k hk=>setRow_other w r k cs hk,rfl,rfl⟩
section
variable {P:Program}{C C0:aK}{ω:Nat→Option Loc}{w w' w0:World}{hp:qh}{env:Env}{a:Act}{o:Oper}{tmps:Array Value}{d:Loc}
theorem aO.iO {B r cs ℓ x v}(hu:gD w w' r cs)(hr:ω r≠I ℓ)(ho:aO C ω w B ℓ x v):aO C ω w' B ℓ x v:=by
 unfold aO at *
 split at ho
 ·rename_i a len cap
  obtain⟨h1,h2,h3,h4,h8,⟨cells,elem,h5,h6⟩,h7⟩:=ho
  refine⟨h1,h2,h3,h4,h8,⟨cells,elem,?_,h6⟩,h7⟩
  rw[hu.other _ (fun h=>hr (h▸h1))]
  exact h5
 ·rename_i a
  obtain⟨h1,h2,h3,h4,h8,⟨cells,elem,h5,h6⟩,h7⟩:=ho
  refine⟨h1,h2,h3,h4,h8,⟨cells,elem,?_,h6⟩,h7⟩
  rw[hu.other _ (fun h=>hr (h▸h1))]
  exact h5
 ·trivial
theorem bK.iO {B b r r' cs x}(hu:gD w w' r cs)(bL:r'≠r)(hr:∀j,ω r≠I (.cell b j))(hb:bK P C ω w B b r' x):bK P C ω w' B b r' x:=by
 have hg:=hu.other r' bL
 cases x with
 |hole=>exact hb
 |cells eE=>
  obtain⟨vs,elem,h1,h2,h3⟩:=hb
  exact⟨vs,elem,by rw[hg];exact h1,h2,fun j c hc=>let ⟨v,a,q,b,d⟩:=h3 j c hc; ⟨v,a,q,b,fun e=>(d e).iO hu (hr j)⟩⟩
 |map es=>obtain⟨cj,clock,h1,h2⟩:=hb;exact⟨cj,clock,by rw[hg];exact h1,h2⟩
 |iter s pos=>show w'.heap[r']?=_;rw[hg];exact hb
 |loop l=>obtain⟨lp,h1,h2⟩:=hb;exact⟨lp,by rw[hg];exact h1,h2⟩
 |fU t e l=>obtain⟨p,v,h1,h2,h3,h4⟩:=hb;exact⟨p,v,by rw[hg];exact h1,h2,h3,h4.iO hu (hr 1)⟩
 |dead=>obtain⟨cs,t,h1⟩:=hb;exact⟨cs,t,by rw[hg];exact h1⟩
 |vec sz bN xs=>exact ej.imp (fun _ _ _ h=>h) (fun _ h=>h) (fun _ h _=>h) hg (fun q n cap k=>⟨hu.other q (fun hq=>hr 0 (hq▸k.1)),k.iO hu (hr 0)⟩) hb
theorem qva (m:az P C ω w0 C0 hp w)(e:ak C ω w w0.heap.size env tmps){r q cells}{t:TypeId}{news s}(hω:ω r=I (.slot s))(hB:w0.heap.size≤r∨C.W r)(hβ:∀b,C.β b≠I r)
  (hg:w.heap[r]?=I (.cells cells t (0,0))) (cG:q+news.length≤cells.size) (hK:∀o,q≤o→C.K r o=Es) (h1:∀v∈news,v.oneCell'=Ga):
  az P (C.put r q news) (cR ω r d) w0 C0 hp (w.setRow r (cells.toList.take q++news++cells.toList.drop (q+news.length)).toArray) ∧
  ak (C.put r q news) (cR ω r d) (w.setRow r (cells.toList.take q++news++cells.toList.drop (q+news.length)).toArray) w0.heap.size (z8 env (I s)) tmps∧C.le (C.put r q news):=by
 have hu:=Ft hg (cells.toList.take q++news++cells.toList.drop (q+news.length)).toArray
 generalize QD:w.setRow r (cells.toList.take q++news++cells.toList.drop (q+news.length)).toArray=w' at hu
 have hle:=aK.gC (C:=C) (off:=q) news hK
 have c5:∀ℓ x v,ℓ≠.slot s→aO C ω w w0.heap.size ℓ x v→aO (C.put r q news) (cR ω r d) w' w0.heap.size ℓ x v:=by
  intro ℓ x v hℓ ho
  have bL:ω r≠I ℓ:=by rw[hω];intro h;exact hℓ (I.inj h).symm
  have h2:aO (C.put r q news) ω w' w0.heap.size ℓ x v:=(ho.put news (.inr bL)).iO hu bL
  exact h2.other (.inl bL)
 refine⟨?_,?_,hle⟩
 ·have Fu:=hu.size
  refine { base:=m.base,know:=?_,dq:=?_,apart:=?_,inj:=m.inj,lt:=?_,size:=?_,frame:=?_,fo:=?_,os:=hu.os.trans m.os,output:=hu.output.trans m.output,fresh:=m.fresh,grown:=aK.le_trans m.grown hle,old:=?_,box:=?_,iF:=fun q hq=>by rw[hu.size];exact m.iF q hq }
  ·intro b p v hk
   simp only[aK.put]at hk
   split at hk
   ·rename_i hc
    obtain⟨rfl,h2,h3⟩:=hc
    obtain⟨t',Fv⟩:=hu.at_
    simp only[World.cell?,Fv]
    rw[Gp,Ha,Gj (by simp;omega),Gf (by simp;omega)]
    have:(Yc q cells.toList).length=q:=by simp;omega
    rw[this]
    simpa using hk
   ·by_cases hb:b=r
    ·subst hb
     have bz:p<q:=by
      rcases Nat.lt_or_ge p q with h|h
      ·exact h
      ·rw[hK p h]at hk;cases hk
     have hc:=m.know _ _ _ hk
     obtain⟨t',Fv⟩:=hu.at_
     simp only[World.cell?,hg]at hc
     simp only[World.cell?,Fv]
     simp only[If,G3,if_false]at hc ⊢
     rw[Gp,Ha,Gf (by simp;omega),G4 bz,Gm]
     exact hc
    ·have hc:=m.know _ _ _ hk
     simp only[World.cell?]at hc ⊢
     rw[hu.other b hb]
     exact hc
  ·intro b p v hk
   simp only[aK.put]at hk
   split at hk
   ·exact h1 v (G5 hk)
   ·exact m.dq b p v hk
  ·intro b p o hb
   simp only[aK.put]
   rw[if_neg]
   ·exact m.apart b p o hb
   ·rintro ⟨rfl,_⟩;exact hβ b hb
  ·intro b p hb
   rw[Fu];exact m.lt b p hb
  ·rw[Fu];exact m.size
  ·intro k hk hn hw
   have ik:k≠r:=fun h=>by
    subst h
    rcases hB with h|h
    ·omega
    ·rw[m.grown.w]at h;exact hw h
   rw[hu.other k ik];exact m.frame k hk hn hw
  ·intro k hk
   have ik:k≠r:=fun h=>by
    subst h
    have:=m.fo k hk
    rw[hg]at this;cases this
   rw[hu.other k ik];exact m.fo k hk
  ·intro k o hk hw
   have ik:k≠r:=fun h=>by
    subst h
    rcases hB with h|h
    ·omega
    ·rw[m.grown.w]at h;exact hw h
   simp only[aK.put]
   rw[if_neg (by rintro ⟨h,_⟩;exact ik h)]
   exact m.old k o hk hw
  ·intro b x p hx hb
   have bL:p≠r:=fun h=>hβ b (h▸hb)
   have uP:=m.box b x p hx hb
   have lv:bK P C ω w' w0.heap.size b p x:=uP.iO hu bL (fun j=>by rw[hω];simp)
   refine lv.mono hle fun j y v ho=>?_
   have lP:ω r≠I (.cell b j):=by rw[hω];simp
   exact(ho.put news (.inr lP)).other (.inl lP)
 ·intro t x hx
  have hlk:∃v o,ji s env=I (v,o)∨ji s env=Es:=by
   cases h:ji s env with
   |none=>exact⟨.undef,E9,.inr rfl⟩
   |some x=>exact⟨x.1,x.2,.inl rfl⟩
  by_cases lQ:t=s
  ·subst lQ
   simp only[z8]at hx
   cases hl:ji t env with
   |none=>rw[hl]at hx;simp only[hl]at hx;cases hx
   |some y=>
    rw[hl]at hx
    simp only[ji,Rt,cond_true]at hx
    cases hx
    obtain⟨v,h2,h3,_⟩:=e t y hl
    exact⟨v,h2,aH.mono hle h3,by simp⟩
  ·have fj:ji t env=I x:=by
    simp only[z8]at hx
    cases hl:ji s env with
    |none=>rw[hl]at hx;exact hx
    |some y=>
     rw[hl]at hx
     simp only[ji]at hx
     have:Gx s t=E9:=by
      cases hb:Gx s t with
      |false=>rfl
      |true=>exact absurd (Gd hb).symm lQ
     rw[this]at hx
     exact hx
   obtain⟨v,h2,h3,h4⟩:=e t x fj
   exact⟨v,h2,aH.mono hle h3,fun h=>c5 _ _ _ (by simp[lQ]) (h4 h)⟩
theorem QE {t tx ty e:TypeId}{i:TypeInfo}(ht:P.underlying t=I (.slice e))(hi:P.info? e=I i)(r off ng Aq:Nat)(x:Value)(n:Nat)(news:List Value)(hs:Src P i.size tx x n news w)(ez:ng+n≤Aq)
  {cells} {te:TypeId} (hg:w.heap[r]?=I (.cells cells te (0,0))) (cG:off+ng*i.size+news.length≤cells.size):
  (Builtin.append_ #[t,tx] ty #[.slice (I ⟨r,off,Es⟩) ng Aq,x]).run P w =
   .ok (.slice (I ⟨r,off,Es⟩) (ng+n) Aq) (w.setRow r (cells.toList.take (off+ng*i.size)++news++cells.toList.drop (off+ng*i.size+news.length)).toArray):=by
 have cr:=run_storeCells_at (P:=P) r (off+ng*i.size) te news 0 cells w hg (by simpa using cG) hs.one
 simp only[T7]at cr
 rcases hs.kind with⟨e',hk⟩|hk<;>simp[Builtin.append_,run_underlying ht,run_underlying hk,sizeOf,typeInfo,hi,hs.len,ez,hs.cells,Addr.add_lit,cr]
theorem qk7 {t tx ty e:TypeId}{i:TypeInfo}(ht:P.underlying t=I (.slice e))(hi:P.info? e=I i)(x:Value)(hs:Src P i.size tx x 0 [] w):
  (Builtin.append_ #[t,tx] ty #[.slice Es 0 0,x]).run P w=.ok (.slice Es 0 0) w:=by
 rcases hs.kind with⟨e',hk⟩|hk<;>simp[Builtin.append_,run_underlying ht,run_underlying hk,sizeOf,typeInfo,hi,hs.len,hs.cells]
theorem KC (m:az P C ω w0 C0 hp w){u:TypeId}{ut:TypeDesc}{sz vy ys v}(hu:P.underlying u=I ut)(jL:Ab ut=Ga)(h:zq sz vy=I ys)(hr:bT C vy v):
  ∃news,Src P sz u v ys.length news w∧aW C (ys.flatMap AVal.flat) news∧(∀y∈ys,y.flat.length=sz)∧∀x∈news,x.oneCell'=Ga:=by
 have hk:(∃e',P.underlying u=I (.slice e'))∨P.underlying u=I .string:=by
  cases ut<;>simp[Ab]at jL
  ·exact .inr hu
  ·exact .inl ⟨_,hu⟩
 cases vy with
 |list n sy n9=>
  simp only[zq]at h
  cases hb:(Gx sz sy||n9.isEmpty)with
  |false=>simp[hb]at h
  |true=>
   simp only[hb,cond_true,I.injEq]at h
   subst h
   rcases hr.da with⟨rfl,rfl,rfl⟩|⟨rfl,r,q,cap,rfl,_,dl⟩|⟨rfl,rfl,ad,_,rfl⟩
   ·exact⟨[],⟨hk,fun _=>rfl,run_firstCells_none w sz 0 0 0,run_firstCells_none w.drew sz 0 0 0,by simp,by simp⟩,.nil,by simp,by simp⟩
   ·obtain⟨news,h1,h2⟩:=cy.vals dl.cells
    have h3:∀x∈news,x.oneCell'=Ga:=fun x hx=>by
     obtain⟨j,hj⟩:=Qt hx
     exact m.dq _ _ _ (h2 j x hj)
    have c7:∀y∈n9,y.flat.length=sz:=by
     intro y hy
     rcases Bool.or_eq_true _ _▸hb with hb|hb
     ·rw[Gd hb];exact dl.sized y hy
     ·rw[List.isEmpty_iff.1 hb]at hy;cases hy
    have hl:news.length=n9.length*sz:=by rw[h1.length,yj n9 c7]
    have hc:∀j u,news[j]?=I u→w.cell? ((⟨r,q,Es⟩:Addr).add j)=I u:=fun j u hj=>by rw[add_lit];exact m.know _ _ _ (h2 j u hj)
    refine⟨news,⟨hk,fun _=>rfl,run_firstCells_some w sz _ _ _ _ news hl hc,run_firstCells_some w.drew sz _ _ _ _ news hl (by simpa using hc),hl,h3⟩,h1,c7,h3⟩
   ·exact⟨[],⟨hk,fun _=>rfl,run_firstCells_some w sz _ _ _ _ [] (by simp) (by simp),run_firstCells_some w.drew sz _ _ _ _ [] (by simp) (by simp),by simp,by simp⟩,.nil,by simp,by simp⟩
 |str s=>
  simp only[zq]at h
  cases hb:Gx sz 1 with
  |false=>simp[hb]at h
  |true=>
   simp only[hb,cond_true,I.injEq]at h
   obtain rfl:=Gd hb
   subst h
   obtain rfl:=hr.cw
   have kA:∀l:List UInt8,(l.map fun(c:UInt8)=>AVal.int .u8 c.toNat).flatMap AVal.flat=l.map fun(c:UInt8)=>AVal.int .u8 c.toNat:=by
    intro l;induction l with
    |nil=>rfl
    |cons c l ih=>simp only[Ye,Jf,ih];rfl
   have fZ:∀l:List UInt8,aW C (l.map fun(c:UInt8)=>AVal.int .u8 c.toNat) (l.map fun b=>Value.int .u8 b.toNat):=by
    intro l;induction l with
    |nil=>exact .nil
    |cons c l ih=>exact .cons _ _ _ _ (.int _ _) ih
   refine⟨byteCells ⟨⟨s⟩⟩,⟨hk,fun w'=>by simp[Builtin.lenOf];rfl,?_,?_,?_,?_⟩,?_,?_,?_⟩
   ·rw[X2];exact firstCells_string (P:=P) ⟨⟨s⟩⟩ w
   ·rw[X2];exact firstCells_string (P:=P) ⟨⟨s⟩⟩ w.drew
   ·simp[byteCells]
   ·intro u hu;obtain⟨_,_,rfl⟩:=Rs.1 hu;rfl
   ·rw[kA];simpa[byteCells]using fZ s
   ·intro y hy;obtain⟨_,_,rfl⟩:=Rs.1 hy;rfl
   ·intro u hu;obtain⟨_,_,rfl⟩:=Rs.1 hu;rfl
 |_=>simp[zq]at h
theorem Fw {x s}(h:zj env x=I s):x=.tmp s∧∃v,ji s env=I (v,Ga):=by
 unfold zj at h
 split at h
 ·split at h
  ·rename_i t v hl
   cases h
   exact⟨rfl,v,hl⟩
  ·cases h
 ·cases h
theorem q5d (e:ak C ω w w0.heap.size env a.tmps){x x' sz len cap xs ad}(h1:qt x=I x')(c5:(zj env x').isSome=Ga)(e1:qi env x'=I (.list E9 sz xs))(hx:a.eval x=.slice (I ad) len cap):ad.spot=Es:=by
 obtain⟨s,gW⟩:=Ld.1 c5
 obtain⟨fj,v0,hl⟩:=Fw gW
 have il:v0=.list E9 sz xs:=by
  subst fj
  simp only[qi,hl]at e1
  exact I.inj e1
 subst il
 obtain⟨cv,xQ,KD,Ar⟩:=e s _ hl
 have oJ:cv=.slice (I ad) len cap:=by
  have iP:qt x=I (.tmp s):=by rw[h1,fj]
  cases x with
  |tmp t'=>
   simp only[qt]at iP
   cases iP
   have:a.eval (.tmp s)=cv:=by simp[Act.eval,Gs,xQ]
   rw[←this,hx]
  |const u=>simp only[qt]at iP;split at iP<;>cases iP
  |func f=>simp[qt]at iP
  |global g=>simp[qt]at iP
 subst oJ
 exact(Ar rfl).2.2.2.1
theorem jby (m:az P C ω w0 C0 hp w)(e:ak C ω w w0.heap.size env a.tmps){c}{t u el:TypeId}{ut:TypeDesc}{x y x' y' sz b n dj xs ys vy}
  (ho:o.op=.call c) (ea:c.callee=.builtin .append) (eo:c.args.toList=[x,y]) (eP:c.argTypes.toList=[t,u]) (ht:P.underlying t=I (.slice el)) (hu:P.underlying u=I ut) (jL:Ab ut=Ga)
  (hn:jm P el=I sz) (hb:nY P el=I b) (h1:qt x=I x') (h2:qt y=I y') (e1:qi env x'=I (.list n dj xs)) (e2:qi env y'=I vy) (cW:zq sz vy=I ys)
  (c5:n=Ga∨(zj env x').isSome=Ga) (As:sz=dj∨(xs=[]∧n=Ga)) (hlen:xs.length+ys.length≤1073741824) (jK:b≤4096) (hzero:∃z,yr P el=I z∧z.length=sz):
  ∃v w',(execOp a.eval o).run P w=.ok (.value v) w'∧zi P C0 w0 C a.tmps d env ⟨qA n sz xs ys,Ga,zj env x',hp⟩ v w':=by
 have ha:c.args=#[x,y]:=by apply Gy;simpa using eo
 have lM:c.argTypes=#[t,u]:=by apply Gy;simpa using eP
 obtain⟨i,hi,qK⟩:∃i,P.info? el=I i∧i.bytes=b:=by
  unfold nY at hb
  cases hi:P.info? el with
  |none=>simp[hi]at hb
  |some i=>exact⟨i,rfl,by simpa[hi]using hb⟩
 have kK:i.size=sz:=by
  unfold jm at hn;rw[hi]at hn;simpa using hn
 obtain⟨z,hz,Au⟩:=hzero
 obtain⟨zv,nh⟩:∃zv,i.zero=I zv:=by
  unfold yr at hz;rw[hi]at hz
  cases hq:i.zero with
  |none=>simp[hq]at hz
  |some v=>exact⟨v,rfl⟩
 have rx:=qv e.ct h1 e1
 have ry:=qv e.ct h2 e2
 obtain⟨news,hs,db,fM,dc⟩:=KC m hu jL cW ry
 have eZ:∀ {z:Value} {w':World},(Builtin.append_ #[t,u] o.type #[a.eval x,a.eval y]).run P w=.ok z w'→(execOp a.eval o).run P w=.ok (.value z) w':=by
  intro z w' h
  simp[execOp,ho,resolve,ea,ha,lM,invoke,builtin,h]
 have ni:news.length=ys.length*sz:=by rw[db.length,yj ys fM]
 -- a new row
 have grow:∀(base:Option Addr) (cap:Nat) (eG:List Value),a.eval x=.slice base xs.length cap→cap<xs.length+ys.length→(∀(w':World),w'=w.drew→(Builtin.firstCells i.size xs.length (.slice base xs.length cap)).run P w'=.ok eG.toArray w') →
   aW C (xs.flatMap AVal.flat) eG→(∀v∈eG,v.oneCell'=Ga)→(∀x∈xs,x.flat.length=sz) →
   ∃v w',(execOp a.eval o).run P w=.ok (.value v) w'∧zi P C0 w0 C a.tmps d env ⟨.list E9 sz (xs++ys),Ga,zj env x',hp⟩ v w':=by
  intro base cap eG qM hcap hold xR Fx oK
  have cG:Builtin.nextslicecap (xs.length+ys.length) cap*i.bytes≤281474976710656:=growslice_fits hcap (by
   rw[qK]
   exact G7 (Jn hlen jK) (by decide))
  have bE:=run_append_grow_src w t u o.type el i zv ht hi nh base xs.length cap eG (hold _ rfl) (a.eval y) ys.length news (kK▸hs) hcap (by omega) cG
  rw[←qM]at bE
  refine⟨_,_,eZ bE,?_⟩
  have hx:Ext w w.drew:=Ext.drew w
  have uQ:=grownCap_ge w (xs.length+ys.length) cap el
  have ij:zv.cells.size=sz:=by
   obtain⟨_,zv',lN,Fy,_⟩:=uO (C:=C) hz
   have:=lN w
   simp[zeroValue,typeInfo,hi,nh]at this
   subst this
   have:=Fy.length
   simp at this
   omega
  have eY:=KA (d:=d) (tmps:=a.tmps) (m.ext hx) (e.ext hx) ((eG++news).toArray++Builtin.zeroCells zv.cells (grownCap w (xs.length+ys.length) cap el-(xs.length+ys.length))) el (xs++ys) sz (grownCap w (xs.length+ys.length) cap el) (eG++news)
   (by rw[S4];exact aW.append xR db) (by
    intro j v hj
    rw[G6 (by simpa using(Gi.1 hj).1)]
    simpa using hj) (by
    intro v hv
    rcases Jc.1 hv with hv|hv
    ·exact Fx v hv
    ·exact dc v hv) (by
    intro x hx
    rcases Jc.1 hx with hx|hx
    ·exact oK x hx
    ·exact fM x hx) (by rw[Le];exact uQ) (by
    have ho:=xR.length
    rw[yj xs oK]at ho
    simp[Builtin.zeroCells,ij,ho,ni]
    rw[←Jg,←Jg]
    exact Gt _ (by omega)) (zj env x')
  rw[Le]at eY
  exact eY
 rcases rx.da with⟨rfl,rfl,hx⟩|⟨rfl,r,q,cap,hx,hle,dl⟩|⟨rfl,rfl,ad,mH,hx⟩
 rotate_right
 ·exact absurd (q5d e h1 (by rcases c5 with h|h<;>first|cases h|exact h) e1 hx) mH
 ·-- nil
  cases ys with
  |nil=>
   have:news=[]:=by cases db;rfl
   subst this
   refine⟨.slice Es 0 0,w,eZ ?_,C,ω,aK.le_refl C,m,e.strip _,by simpa[qA]using aH.jI 0,fun _=>trivial⟩
   rw[hx]
   exact qk7 ht hi _ (kK▸hs)
  |cons y1 ys1=>
   have:=grow Es 0 [] hx (by simp) (fun w' _=>run_firstCells_none w' _ _ _ _) .nil (by simp) (by simp)
   simpa[qA]using this
 ·-- own
  rw[show qA E9 sz xs ys=.list E9 sz (xs++ys)from rfl]
  have Fz:(zj env x').isSome=Ga:=by rcases c5 with h|h<;>first|cases h|exact h
  obtain⟨s,gW⟩:=Ld.1 Fz
  obtain⟨fj,v0,hl⟩:=Fw gW
  obtain rfl:sz=dj:=by rcases As with h|⟨_,h⟩<;>first|exact h|cases h
  have il:v0=.list E9 sz xs:=by
   subst fj
   simp only[qi,hl]at e1
   exact I.inj e1
  subst il
  obtain⟨cv,xQ,KD,Ar⟩:=e s _ hl
  have oJ:cv=.slice (I ⟨r,q,Es⟩) xs.length cap:=by
   have iP:qt x=I (.tmp s):=by rw[h1,fj]
   cases x with
   |tmp t'=>
    simp only[qt]at iP
    cases iP
    have:a.eval (.tmp s)=cv:=by simp[Act.eval,Gs,xQ]
    rw[←this,hx]
   |const u=>simp only[qt]at iP;split at iP<;>cases iP
   |func f=>simp[qt]at iP
   |global g=>simp[qt]at iP
  subst oJ
  obtain⟨hω,hB,hβ,_,KE,⟨cells,te,hg,cG,_⟩,hK⟩:=Ar rfl
  simp only at hω hB hβ hg cG hK
  obtain⟨eG,FA,ho2⟩:=cy.vals dl.cells
  have oK:=dl.sized
  by_cases ez:xs.length+ys.length≤cap
  ·-- there is room
   have gE:(xs.length+ys.length)*sz≤cap*sz:=Gt _ ez
   rw[Jg]at gE
   have bE:=QE (P:=P) (w:=w) (ty:=o.type) ht hi r q xs.length cap (a.eval y) ys.length news (kK▸hs) ez hg (by rw[kK,ni];omega)
   rw[←hx]at bE
   obtain⟨m',e',cX⟩:=qva (d:=d) (tmps:=a.tmps) m e (r:=r) (q:=q+xs.length*sz) (news:=news) hω hB hβ hg (by rw[ni];omega) hK dc
   rw[kK]at bE
   rw[gW]
   refine⟨_,_,eZ bE,_,_,cX,m',e',?_,?_⟩
   ·have qN:bA (C.put r (q+xs.length*sz) news) r sz (xs++ys) q:=bA.append (aH.mono cX dl) (bA.eU (aK.fi hK db) fM)
    have:=aH.list sz (xs++ys) r q cap (by simpa using ez) qN
    simpa using this
   ·intro _
    have hall:∀x∈xs++ys,x.flat.length=sz:=fun x hx=>by
     rcases Jc.1 hx with hx|hx
     ·exact oK x hx
     ·exact fM x hx
    refine⟨by simp[cR],hB,hβ,rfl,KE,⟨_,te,setRow_heap w r cells _ te (0,0) hg,?_,eV.sized hall⟩,?_⟩
    ·simp;omega
    ·intro p hp
     rw[Jg]at hp
     simp only[aK.put]
     simp only at hp
     rw[if_neg (by rw[ni];omega)]
     exact hK p (by omega)
  ·-- there is none
   have fX:∀v∈eG,v.oneCell'=Ga:=fun v hv=>by
    obtain⟨j,hj⟩:=Qt hv
    exact m.dq _ _ _ (ho2 j v hj)
   have QF:eG.length=xs.length*i.size:=by rw[FA.length,yj xs oK,kK]
   have:=grow (I ⟨r,q,Es⟩) cap eG hx (by omega) (fun w' QD=>run_firstCells_some w' _ _ _ _ _ eG QF (fun j v hj=>by
    subst QD
    rw[add_lit]
    have:=m.know _ _ _ (ho2 j v hj)
    simpa using this)) FA fX oK
   simpa using this
end
structure nj (w w':World)(r:Nat):Prop where
 size:w'.heap.size=w.heap.size
 other:∀k,k≠r→w'.heap[k]?=w.heap[k]?
 fz:∀c t fr,w'.heap[r]?=I (.cells c t fr)→fr=(0,0)
 os:w'.os=w.os
 output:w'.output=w.output
theorem gD.iO {w w' r cs}(h:gD w w' r cs):nj w w' r:=
 ⟨h.size,h.other,fun c t fr hc=>by obtain⟨t',ht⟩:=h.at_;rw[ht]at hc;cases hc;rfl,h.os,h.output⟩
section
variable {P:Program}{C C0:aK}{ω:Nat→Option Loc}{w w' w0:World}{hp:qh}{env:Env}{a:Act}{o:Oper}{tmps:Array Value}{d:Loc}
theorem aO.dI {B b r ℓ x v}(hu:nj w w' r)(hb:C.β b=I r)(ho:aO C ω w B ℓ x v):aO C ω w' B ℓ x v:=by
 unfold aO at *
 split at ho
 ·obtain⟨h1,h2,h3,h4,h8,⟨cells,elem,h5,h6⟩,h7⟩:=ho
  refine⟨h1,h2,h3,h4,h8,⟨cells,elem,?_,h6⟩,h7⟩
  rw[hu.other _ (fun h=>h3 b (by rw[h];exact hb))]
  exact h5
 ·obtain⟨h1,h2,h3,h4,h8,⟨cells,elem,h5,h6⟩,h7⟩:=ho
  refine⟨h1,h2,h3,h4,h8,⟨cells,elem,?_,h6⟩,h7⟩
  rw[hu.other _ (fun h=>h3 b (by rw[h];exact hb))]
  exact h5
 ·trivial
theorem ak.dI {B b r}(hu:nj w w' r)(hb:C.β b=I r)(e:ak C ω w B env tmps):ak C ω w' B env tmps:=
 fun s x hx=>let ⟨v,h1,h2,h3⟩:=e s x hx; ⟨v,h1,h2,fun h=>(h3 h).dI hu hb⟩
theorem bK.dI {B b b' r r' x}(hu:nj w w' r)(hb:C.β b=I r)(bL:r'≠r)(h:bK P C ω w B b' r' x):bK P C ω w' B b' r' x:=by
 have hg:=hu.other r' bL
 cases x with
 |hole=>exact h
 |cells eE=>
  obtain⟨vs,elem,h1,h2,h3⟩:=h
  exact⟨vs,elem,by rw[hg];exact h1,h2,fun j c hc=>let ⟨v,a,q,b,d⟩:=h3 j c hc; ⟨v,a,q,b,fun e=>(d e).dI hu hb⟩⟩
 |map es=>obtain⟨cj,clock,h1,h2⟩:=h;exact⟨cj,clock,by rw[hg];exact h1,h2⟩
 |iter s pos=>show w'.heap[r']?=_;rw[hg];exact h
 |loop l=>obtain⟨lp,h1,h2⟩:=h;exact⟨lp,by rw[hg];exact h1,h2⟩
 |fU t e l=>obtain⟨p,v,h1,h2,h3,h4⟩:=h;exact⟨p,v,by rw[hg];exact h1,h2,h3,h4.dI hu hb⟩
 |dead=>obtain⟨cs,t,h1⟩:=h;exact⟨cs,t,by rw[hg];exact h1⟩
 |vec sz bN xs=>exact ej.imp (fun _ _ _ h=>h) (fun _ h=>h) (fun _ h _=>h) hg (fun q n cap k=>⟨hu.other q (fun hq=>k.2.2.1 b (by rw[hb];exact congrArg I hq.symm)),k.dI hu hb⟩) h
theorem az.dW {ω'}(m:az P C ω w0 C0 hp w){b r}(hu:nj w w' r)(hb:C.β b=I r)(x':bg)(hω:∀b' j y v,b'≠b→aO C ω w w0.heap.size (.cell b' j) y v→aO C ω' w w0.heap.size (.cell b' j) y v)
  (gF:bK P C ω' w' w0.heap.size b r x'):az P C ω' w0 C0 (hp.set b x') w':=by
 have hfr:=m.fresh b r hb
 have qO:w.heap[r]?≠I (.deferred (I [])):=by
  obtain⟨x,hx⟩:=Gn (m.lt b r hb).2▸(⟨_,rfl⟩:∃x,I (hp[b]'(m.lt b r hb).2)=I x)
  have h0:=m.box b x r hx hb
  intro h
  cases x with
  |hole=>exact h0
  |cells cs=>obtain⟨vs,elem,h1,_⟩:=h0;rw[h]at h1;cases h1
  |map es=>obtain⟨cj,clock,h1,_⟩:=h0;rw[h]at h1;cases h1
  |iter s pos=>have h1:w.heap[r]?=_:=h0;rw[h]at h1;cases h1
  |loop l=>obtain⟨lp,h1,_⟩:=h0;rw[h]at h1;cases h1
  |fU t e l=>obtain⟨p,v,h1,_⟩:=h0;rw[h]at h1;cases h1
  |dead=>obtain⟨cs,t,h1⟩:=h0;rw[h]at h1;cases h1
  |vec sz bN xs=>obtain⟨_,_,_,_,_,_,cs,t,h1⟩:=h0;rw[h]at h1;cases h1
 refine { base:=m.base,know:=?_,dq:=m.dq,apart:=m.apart,inj:=m.inj,lt:=?_,size:=?_,frame:=?_,fo:=?_,os:=hu.os.trans m.os,output:=hu.output.trans m.output,fresh:=m.fresh,grown:=m.grown,old:=m.old,box:=?_,iF:=fun q hq=>by rw[hu.size];exact m.iF q hq }
 ·intro k p v hk
  have bL:k≠r:=fun h=>by rw[h,m.apart b r p hb]at hk;cases hk
  have hc:=m.know _ _ _ hk
  simp only[World.cell?]at hc ⊢
  rw[hu.other k bL]
  exact hc
 ·intro k p hk
  rw[hu.size,Jo];exact m.lt k p hk
 ·rw[hu.size];exact m.size
 ·intro k hk hn hw
  by_cases ik:k=r
  ·subst ik
   rcases hfr with h|h|h
   ·exact absurd h (hn b)
   ·omega
   ·exact absurd h hw
  ·rw[hu.other k ik];exact m.frame k hk hn hw
 ·intro k hk
  have ik:k≠r:=fun h=>qO (h▸m.fo k hk)
  rw[hu.other k ik];exact m.fo k hk
 ·intro k x p hx hk
  by_cases kL:k=b
  ·subst kL
   rw[hb]at hk
   cases hk
   rw[Gz (m.lt k _ hb).2]at hx
   cases hx
   exact gF
  ·rw[Hb (Rn kL)]at hx
   have qJ:p≠r:=fun h=>kL (m.inj k b p hk (h▸hb))
   have h0:=m.box k x p hx hk
   exact((h0.dI hu hb qJ).mono (ω':=ω') (aK.le_refl C) (fun j y v ho=>by
    have:=hω k j y v kL
    -- the ownerships of other boxes,in the new world
    unfold aO at ho this ⊢
    split at ho
    ·obtain⟨h1,h2,h3,h4,h8,⟨cells,elem,h5,h6⟩,h7⟩:=ho
     rename_i ad len cap
     have lP:ad.block≠r:=fun h=>h3 b (h▸hb)
     rw[hu.other _ lP]at h5
     obtain⟨k1,_⟩:=this ⟨h1,h2,h3,h4,h8,⟨cells,elem,h5,h6⟩,h7⟩
     exact⟨k1,h2,h3,h4,h8,⟨cells,elem,by rw[hu.other _ lP];exact h5,h6⟩,h7⟩
    ·obtain⟨h1,h2,h3,h4,h8,⟨cells,elem,h5,h6⟩,h7⟩:=ho
     rename_i ad
     have lP:ad.block≠r:=fun h=>h3 b (h▸hb)
     rw[hu.other _ lP]at h5
     obtain⟨k1,_⟩:=this ⟨h1,h2,h3,h4,h8,⟨cells,elem,h5,h6⟩,h7⟩
     exact⟨k1,h2,h3,h4,h8,⟨cells,elem,by rw[hu.other _ lP];exact h5,h6⟩,h7⟩
    ·trivial))
theorem bK.read {B b r off n cs us}(h:bK P C ω w B b r (.cells cs))(hl:zf cs off n=I us):
  ∃vs,aW C us vs∧us.length=n∧vs.length=n∧(∀j v,vs[j]?=I v→w.cell? ⟨r,off+j,Es⟩=I v)∧∀v∈vs,v.oneCell'=Ga:=by
 unfold zf at hl
 cases hb:St (off+n) cs.length with
 |false=>simp[hb]at hl
 |true=>
  simp only[hb,cond_true,I.injEq]at hl
  subst hl
  have hle:=Jj hb
  obtain⟨vs,elem,h1,h2,h3⟩:=h
  have key:∀(n off:Nat),off+n≤cs.length→∃ws:List Value,aW C (((cs.drop off).take n).map (·.1)) ws∧ws.length=n∧∀j v,ws[j]?=I v→vs[off+j]?=I v∧v.oneCell'=Ga:=by
   intro n
   induction n with
   |zero=>intro off _;exact⟨[],by simpa using aH.nil,rfl,by simp⟩
   |succ n ih=>
    intro off hle
    obtain⟨ws,i1,i2,i3⟩:=ih (off+1) (by omega)
    have bz:off<cs.length:=by omega
    obtain⟨v,j1,j2,j3,_⟩:=h3 off cs[off] (Gn bz)
    refine⟨v::ws,?_,by simp[i2],?_⟩
    ·rw[List.drop_eq_getElem_cons bz]
     exact .cons _ _ _ _ j3 i1
    ·intro j u hj
     cases j with
     |zero=>simp at hj;subst hj;exact⟨j1,j2⟩
     |succ j=>simp at hj;rw[show off+(j+1)=off+1+j from by omega];exact i3 j u hj
  obtain⟨ws,k1,k2,k3⟩:=key n off hle
  refine⟨ws,k1,by simp;omega,k2,?_,?_⟩
  ·intro j v hj
   have:=(k3 j v hj).1
   simp[World.cell?,h1,this]
  ·intro v hv
   obtain⟨j,hj⟩:=Qt hv
   exact(k3 j v hj).2
theorem FB {t:TypeId}{n r off vs}(hg:ym P t=I Ga)(hn:jm P t=I n)(hl:vs.length=n)(hc:∀j v,vs[j]?=I v→w.cell? ⟨r,off+j,Es⟩=I v):
  (loadVar t ⟨r,off,Es⟩).run P w=.ok (.agg ⟨vs⟩) w:=by
 have:=run_loadCells_list (P:=P) w ⟨r,off,Es⟩ vs (fun j v hj=>by rw[add_lit];exact hc j v hj)
 rw[hl]at this
 simp[loadVar,Ds hg,yl hn,this]
theorem FC {t:TypeId}{r off v}(hg:ym P t=I E9)(hc:w.cell? ⟨r,off,Es⟩=I v):(loadVar t ⟨r,off,Es⟩).run P w=.ok v w:=by
 simp[loadVar,Ds hg,hc]
theorem QG (m:az P C ω w0 C0 hp w)(he:bw C env a.tmps){t:TypeId}{x x' n ag p v}(ho:o.op=.load t x)(hg:ym P t=I ag)(hn:jm P t=I n)(FD:ag=E9→n=1)(h1:qt x=I x')(e1:qi env x'=I p)
  (hv:(∃b q cs us,p=.ptr b q∧jt hp b=I cs∧zf cs q n=I us∧((ag=Ga∧v=.agg us)∨(ag=E9∧us=[v])))∨(p=.ai v∧Bool.xor ag v.isAgg=E9∧v.flat.length=n)):Val P C a o w v:=by
 rcases hv with⟨b,q,cs,us,rfl,lx,hl,hv⟩|⟨rfl,hx,qF⟩
 ·obtain⟨r,hr,hq⟩:=(qv he h1 e1).dw
  have gG:hp[b]?=I (.cells cs):=by
   unfold jt at lx
   split at lx
   ·rename_i eE h;cases lx;exact h
   ·cases lx
  obtain⟨vs,k1,_,k2,k3,_⟩:=(m.box b _ r gG hr).read hl
  rcases hv with⟨rfl,rfl⟩|⟨rfl,rfl⟩
  ·exact⟨.agg ⟨vs⟩,by simp[execOp,ho,Instr.loadAt,hq,Instr.sureAddr,FB hg hn k2 k3],.agg _ _ k1⟩
  ·cases k1 with
   |cons _ _ u us hu kJ=>
    cases kJ
    refine⟨u,?_,hu⟩
    have:=FC (P:=P) hg (by simpa using k3 0 u rfl)
    simp[execOp,ho,Instr.loadAt,hq,Instr.sureAddr,this]
 ·obtain⟨r,q,hq,hc⟩:=(qv he h1 e1).eW
  obtain⟨vs,k1,k2⟩:=cy.vals hc
  have hl:vs.length=n:=by rw[k1.length,qF]
  have k3:∀j u,vs[j]?=I u→w.cell? ⟨r,q+j,Es⟩=I u:=fun j u hj=>m.know _ _ _ (k2 j u hj)
  cases ag with
  |true=>
   cases v<;>simp[AVal.isAgg]at hx
   exact⟨.agg ⟨vs⟩,by simp[execOp,ho,Instr.loadAt,hq,Instr.sureAddr,FB hg hn hl k3],.agg _ _ k1⟩
  |false=>
   rw[qbv (by simpa using hx)]at k1
   cases k1 with
   |cons _ _ u us hu kJ=>
    cases kJ
    refine⟨u,?_,hu⟩
    have:=FC (P:=P) hg (by simpa using k3 0 u rfl)
    simp[execOp,ho,Instr.loadAt,hq,Instr.sureAddr,this]
def aK.box (C:aK)(b r:Nat):aK:={ C with β:=fun k=>if k=b then I r else C.β k }
theorem aK.kM {b r}(h:C.β b=Es):C.le (C.box b r):=
 ⟨fun _ _ _ h=>h,fun k p hk=>by
  simp only[aK.box]
  rw[if_neg (fun hb=>by rw[hb,h]at hk;cases hk)]
  exact hk,rfl,fun _ h=>h,fun _ h=>h⟩
theorem aO.box {B b r ℓ x v}(hr:w.heap.size≤r∨ω r≠I ℓ)(ho:aO C ω w B ℓ x v):aO (C.box b r) ω w B ℓ x v:=by
 unfold aO at *
 split at ho
 ·rename_i ad len cap
  obtain⟨h1,h2,h3,h4,h8,⟨cells,elem,h5,h6⟩,h7⟩:=ho
  have bz:ad.block<w.heap.size:=(Gv.1 h5).1
  refine⟨h1,h2,fun k hk=>?_,h4,h8,⟨cells,elem,h5,h6⟩,h7⟩
  simp only[aK.box]at hk
  split at hk
  ·have iH:r=ad.block:=I.inj hk
   rcases hr with hr|hr
   ·omega
   ·exact hr (iH▸h1)
  ·exact h3 k hk
 ·rename_i ad
  obtain⟨h1,h2,h3,h4,h8,⟨cells,elem,h5,h6⟩,h7⟩:=ho
  have bz:ad.block<w.heap.size:=(Gv.1 h5).1
  refine⟨h1,h2,fun k hk=>?_,h4,h8,⟨cells,elem,h5,h6⟩,h7⟩
  simp only[aK.box]at hk
  split at hk
  ·have iH:r=ad.block:=I.inj hk
   rcases hr with hr|hr
   ·omega
   ·exact hr (iH▸h1)
  ·exact h3 k hk
 ·trivial
theorem yx {h0 rk x h'}(h:aS h0 hp rk x=I h'):hp[h0+rk]?=I .hole∧h'=hp.set (h0+rk) x:=by
 unfold aS at h
 split at h
 ·rename_i hh;cases h;exact⟨hh,rfl⟩
 ·cases h
theorem FE (m:az P C ω w0 C0 hp w){b}(h:hp[b]?=I .hole):C.β b=Es:=by
 cases hb:C.β b with
 |none=>rfl
 |some r=>exact(m.box b .hole r h hb).elim
theorem az.aS (m:az P C ω w0 C0 hp w)(e:ak C ω w w0.heap.size env tmps){b}(hh:hp[b]?=I .hole)(obj:Obj)(QH:∀c t fr,obj=.cells c t fr→fr=(0,0))(x:bg)
  (gF:∀C' ω' w',C.le C'→w'.heap[w.heap.size]?=I obj→bK P C' ω' w' w0.heap.size b w.heap.size x):
  az P (C.box b w.heap.size) ω w0 C0 (hp.set b x) (w.alloc obj)∧ak (C.box b w.heap.size) ω (w.alloc obj) w0.heap.size env tmps∧C.le (C.box b w.heap.size):=by
 have hx:Ext w (w.alloc obj):=Ext.alloc w obj QH
 have hβ:=FE m hh
 have hle:=aK.kM (C:=C) (r:=w.heap.size) hβ
 have m':=m.ext hx
 have bz:b<hp.length:=(Gi.1 hh).1
 refine⟨{ m' with apart:=?_,inj:=?_,lt:=?_,fresh:=?_,grown:=aK.le_trans m.grown hle,box:=?_ },?_,hle⟩
 ·intro k r q hk
  simp only[aK.box]at hk
  split at hk
  ·cases hk;exact m.jV _ (Gl _) q
  ·exact m.apart k r q hk
 ·intro k k' r hk eQ
  simp only[aK.box]at hk eQ
  split at hk<;>split at eQ
  ·rename_i h1 h2;rw[h1,h2]
  ·cases hk;have:=(m.lt k' _ eQ).1;omega
  ·cases eQ;have:=(m.lt k _ hk).1;omega
  ·exact m.inj k k' r hk eQ
 ·intro k r hk
  rw[Jo]
  simp only[aK.box]at hk
  split at hk
  ·rename_i h1;cases hk;subst h1;exact⟨by rw[World.size_alloc];omega,bz⟩
  ·have:=m.lt k r hk;exact⟨by rw[World.size_alloc];omega,this.2⟩
 ·intro k r hk
  simp only[aK.box]at hk
  split at hk
  ·cases hk;exact .inr (.inl m.size)
  ·exact m.fresh k r hk
 ·intro k y r hy hk
  simp only[aK.box]at hk
  split at hk
  ·rename_i h1
   subst h1
   cases hk
   rw[Gz bz]at hy
   cases hy
   exact gF _ _ _ hle (by rw[vU,if_pos rfl])
  ·rename_i h1
   rw[Hb (Rn h1)]at hy
   exact((m.box k y r hy hk).mono (ω':=ω) hle fun j z v ho=>ho.box (.inl (Gl _))).ext hx
 ·exact fun s y hy=>let ⟨v,h1,h2,h3⟩:=e s y hy; ⟨v,h1,aH.mono hle h2,fun h=>((h3 h).box (.inl (Gl _))).ext hx⟩
theorem aO.FF {B b r ℓ x v}(hr:∀cs t fr,w.heap[r]?≠I (.cells cs t fr))(ho:aO C ω w B ℓ x v):aO (C.box b r) ω w B ℓ x v:=by
 unfold aO at *
 split at ho
 ·rename_i ad len cap
  obtain⟨h1,h2,h3,h4,h8,⟨cells,elem,h5,h6⟩,h7⟩:=ho
  refine⟨h1,h2,fun k hk=>?_,h4,h8,⟨cells,elem,h5,h6⟩,h7⟩
  simp only[aK.box]at hk
  split at hk
  ·have iH:r=ad.block:=I.inj hk
   exact absurd (iH▸h5) (hr _ _ _)
  ·exact h3 k hk
 ·rename_i ad
  obtain⟨h1,h2,h3,h4,h8,⟨cells,elem,h5,h6⟩,h7⟩:=ho
  refine⟨h1,h2,fun k hk=>?_,h4,h8,⟨cells,elem,h5,h6⟩,h7⟩
  simp only[aK.box]at hk
  split at hk
  ·have iH:r=ad.block:=I.inj hk
   exact absurd (iH▸h5) (hr _ _ _)
  ·exact h3 k hk
 ·trivial
theorem az.FG (m:az P C ω w0 C0 hp w)(e:ak C ω w w0.heap.size env tmps){b q es cj clock}(hh:hp[b]?=I .hole)(hg:w.heap[q]?=I (.map cj clock))(hq:∀k,C.β k≠I q)(hb:w0.heap.size≤q)(hr:cI C es cj.toList):
  az P (C.box b q) ω w0 C0 (hp.set b (.map es)) w∧ak (C.box b q) ω w w0.heap.size env tmps∧C.le (C.box b q):=by
 have hβ:=FE m hh
 have hle:=aK.kM (C:=C) (r:=q) hβ
 have bz:b<hp.length:=(Gi.1 hh).1
 have ly:∀cs t fr,w.heap[q]?≠I (.cells cs t fr):=fun cs t fr h=>by rw[hg]at h;cases h
 refine⟨{ m with apart:=?_,inj:=?_,lt:=?_,fresh:=?_,grown:=aK.le_trans m.grown hle,box:=?_ },?_,hle⟩
 ·intro k r o hk
  simp only[aK.box]at hk
  split at hk
  ·cases hk
   show C.K q o=Es
   cases hK:C.K q o with
   |none=>rfl
   |some v=>
    have:=m.know q o v hK
    simp[World.cell?,hg]at this
  ·exact m.apart k r o hk
 ·intro k k' r hk eQ
  simp only[aK.box]at hk eQ
  split at hk<;>split at eQ
  ·rename_i h1 h2;rw[h1,h2]
  ·cases hk;exact absurd eQ (hq k')
  ·cases eQ;exact absurd hk (hq k)
  ·exact m.inj k k' r hk eQ
 ·intro k r hk
  rw[Jo]
  simp only[aK.box]at hk
  split at hk
  ·rename_i h1;cases hk;subst h1;exact⟨(Gv.1 hg).1,bz⟩
  ·exact m.lt k r hk
 ·intro k r hk
  simp only[aK.box]at hk
  split at hk
  ·cases hk;exact .inr (.inl hb)
  ·exact m.fresh k r hk
 ·intro k y r hy hk
  simp only[aK.box]at hk
  split at hk
  ·rename_i h1
   subst h1
   cases hk
   rw[Gz bz]at hy
   cases hy
   exact⟨cj,clock,hg,hr.mono hle⟩
  ·rename_i h1
   rw[Hb (Rn h1)]at hy
   exact(m.box k y r hy hk).mono (ω':=ω) hle fun j z v ho=>ho.FF ly
 ·exact fun s y hy=>let ⟨v,h1,h2,h3⟩:=e s y hy; ⟨v,h1,aH.mono hle h2,fun h=>(h3 h).FF ly⟩
theorem QI {xs vs}{t:TypeId}{B b r cells}(hr:aW C xs vs)(hs:∀x∈xs,ql x=Ga)(hv:∀(j:Nat) v,vs[j]?=I v→cells[j]?=I v)(hl:xs.length≤cells.size):
  ∀C' ω' w',C.le C'→w'.heap[r]?=I (.cells cells t (0,0))→bK P C' ω' w' B b r (.cells (cellsOf xs)):=by
 intro C' ω' w' hle hg
 refine⟨cells,t,hg,by simpa[cellsOf]using hl,?_⟩
 intro j c hc
 simp only[cellsOf,Jd,En]at hc
 obtain⟨x,hx,rfl⟩:=hc
 obtain⟨v,h1,h2⟩:=hr.get hx
 exact⟨v,hv j v h1,QC h2 (hs x (G5 hx)),aH.mono hle h2,by simp⟩
theorem jer (m:az P C ω w0 C0 hp w)(e:ak C ω w w0.heap.size env a.tmps){t:TypeId}{z h0 rk h'}(ho:o.op=.alloc t)(hz:yr P t=I z)(hs:∀x∈z,ql x=Ga)(hn:aS h0 hp rk (.cells (cellsOf z))=I h'):
  ∃v w',(execOp a.eval o).run P w=.ok (.value v) w'∧zi P C0 w0 C a.tmps d env ⟨.ptr (h0+rk) 0,E9,Es,h'⟩ v w':=by
 obtain⟨hh,rfl⟩:=yx hn
 obtain⟨_,zv,lu,cT,lN⟩:=uO (C:=C) hz
 obtain⟨m',e',hle⟩:=m.aS e hh (.cells zv.cells t) (fun c t fr h=>by cases h;rfl) (.cells (cellsOf z)) (QI cT hs (fun j v h=>by simpa using h) (by have:=cT.length;simp at this;omega))
 refine⟨.pointer (I ⟨w.heap.size,0,Es⟩),_,?_,_,_,hle,m',e',.ptr _ _ _ (by simp[aK.box]),by simp⟩
 simp[execOp,ho,Instr.alloc,lu,newVar,newRow]
theorem jou (m:az P C ω w0 C0 hp w)(e:ak C ω w w0.heap.size env a.tmps){t:TypeId}{x x' v h0 rk h'}(ho:o.op=.box t x)(h1:qt x=I x')(e1:qi env x'=I v)(hs:v.flat.all ql=Ga)
  (hn:aS h0 hp rk (.cells (cellsOf v.flat))=I h'):
  ∃v w',(execOp a.eval o).run P w=.ok (.value v) w'∧zi P C0 w0 C a.tmps d env ⟨.ptr (h0+rk) 0,E9,Es,h'⟩ v w':=by
 obtain⟨hh,rfl⟩:=yx hn
 have hr:=Al (qv e.ct h1 e1) hs
 obtain⟨m',e',hle⟩:=m.aS e hh (.cells (a.eval x).cells t) (fun c t fr h=>by cases h;rfl) (.cells (cellsOf v.flat)) (QI hr (by simpa using hs) (fun j v h=>by simpa using h) (by have:=hr.length;simp at this;omega))
 refine⟨.pointer (I ⟨w.heap.size,0,Es⟩),_,?_,_,_,hle,m',e',.ptr _ _ _ (by simp[aK.box]),by simp⟩
 simp[execOp,ho,Instr.box,newVar,newRow]
theorem jke (m:az P C ω w0 C0 hp w)(e:ak C ω w w0.heap.size env a.tmps){t:TypeId}{x x' v}(ho:o.op=.box t x)(h1:qt x=I x')(e1:qi env x'=I v)(hs:v.flat.all ql=Ga):
  ∃u w',(execOp a.eval o).run P w=.ok (.value u) w'∧zi P C0 w0 C a.tmps d env ⟨.ai v,E9,Es,hp⟩ u w':=by
 have hr:=Al (qv e.ct h1 e1) hs
 have hx:Ext w (w.alloc (.cells (a.eval x).cells t)):=Ext.alloc w _ (fun c t fr h=>by cases h;rfl)
 have hn:∀o,0≤o→C.K w.heap.size o=Es:=fun o _=>m.jV _ (Gl _) o
 have m':=m.newRow (a.eval x).cells t (a.eval x).cells.toList (fun j v h=>by simpa using h) (Ao hr (fun y hy=>Rq.1 hs y hy))
 refine⟨.pointer (I ⟨w.heap.size,0,Es⟩),_,?_,_,ω,aK.gC _ hn,m',(e.put _ (.inl (Gl _)) hn).ext hx,.ai _ _ _ (aK.fi hn hr),by simp⟩
 simp[execOp,ho,Instr.box,newVar,newRow]
theorem jnx (m:az P C ω w0 C0 hp w)(e:ak C ω w w0.heap.size env a.tmps){t:TypeId}{e' sz h0 rk h'}(ho:o.op=.alloc t)(hz:yr P t=I [.b9,.list Ga sz []])(hn:aS h0 hp rk (.fU t e' [])=I h'):
  ∃v w',(execOp a.eval o).run P w=.ok (.value v) w'∧zi P C0 w0 C a.tmps d env ⟨.ptr (h0+rk) 0,E9,Es,h'⟩ v w':=by
 obtain⟨hh,rfl⟩:=yx hn
 obtain⟨_,zv,lu,cT,lN⟩:=uO (C:=C) hz
 have hzc:zv.cells=#[.pointer Es,.slice Es 0 0]:=by
  apply Gy
  generalize zv.cells.toList=vs at cT
  cases cT with
  |cons _ _ v vs h1 h2=>
   cases h2 with
   |cons _ _ u us h3 h4=>
    cases h4
    cases h1
    cases h3
    rfl
 obtain⟨m',e',hle⟩:=m.aS e hh (.cells zv.cells t) (fun c t fr h=>by cases h;rfl) (.fU t e' []) (fun C' ω' w' _ hg=>⟨.pointer Es,.slice Es 0 0,by rw[hzc]at hg;exact hg,.inl rfl,.inl ⟨rfl,rfl⟩,trivial⟩)
 refine⟨.pointer (I ⟨w.heap.size,0,Es⟩),_,?_,_,_,hle,m',e',.ptr _ _ _ (by simp[aK.box]),by simp⟩
 simp[execOp,ho,Instr.alloc,lu,newVar,newRow]
theorem jcm (m:az P C ω w0 C0 hp w)(e:ak C ω w w0.heap.size env a.tmps){t:TypeId}{h0 rk h'}(ho:o.op=.makeMap t Es)(hn:aS h0 hp rk (.map [])=I h'):
  ∃v w',(execOp a.eval o).run P w=.ok (.value v) w'∧zi P C0 w0 C a.tmps d env ⟨.map (h0+rk),E9,Es,h'⟩ v w':=by
 obtain⟨hh,rfl⟩:=yx hn
 obtain⟨m',e',hle⟩:=m.aS e hh (.map #[] 0) (fun c t fr h=>by cases h) (.map []) (fun C' ω' w' _ hg=>⟨#[],0,hg,.nil⟩)
 refine⟨.map (I w.heap.size),_,?_,_,_,hle,m',e',.map _ _ (by simp[aK.box]),by simp⟩
 simp[execOp,ho,Instr.makeMap]
theorem q77 (m:az P C ω w0 C0 hp w)(e:ak C ω w w0.heap.size env a.tmps){t:TypeId}{x x' s h0 rk h'}(ho:o.op=.range t x)(ht:P.underlying t=I .string)(h1:qt x=I x')(e1:qi env x'=I (.str s))(hn:aS h0 hp rk (.iter s 0)=I h'):
  ∃v w',(execOp a.eval o).run P w=.ok (.value v) w'∧zi P C0 w0 C a.tmps d env ⟨.ptr (h0+rk) 0,E9,Es,h'⟩ v w':=by
 obtain⟨hh,rfl⟩:=yx hn
 have hs:=(qv e.ct h1 e1).cw
 obtain⟨m',e',hle⟩:=m.aS e hh (.stringIter ⟨⟨s⟩⟩ 0) (fun c t fr h=>by cases h) (.iter s 0) (fun C' ω' w' _ hg=>hg)
 refine⟨.pointer (I ⟨w.heap.size,0,Es⟩),_,?_,_,_,hle,m',e',.ptr _ _ _ (by simp[aK.box]),by simp⟩
 simp[execOp,ho,Instr.range,run_underlying ht,hs]
end
section
variable {P:Program}{C C0:aK}{ω:Nat→Option Loc}{w w' w0:World}{hp:qh}{env:Env}{a:Act}{o:Oper}{tmps:Array Value}{d:Loc}
def uR (ω:Nat→Option Loc)(x:AVal)(v:Value)(ℓ:Loc):Nat→Option Loc:=
 match x,v with
 | .list ..,.slice (I ad) _ _=>cR ω ad.block ℓ
 | .c8 _,.pointer (I ad)=>cR ω ad.block ℓ
 |_,_=>ω
theorem xS {B ℓ0 ℓ ℓ' x z cv u}(h0:aO C ω w B ℓ0 x cv)(bL:ℓ≠ℓ0)(hz:aO C ω w B ℓ z u):aO C (uR ω x cv ℓ') w B ℓ z u:=by
 unfold uR
 split
 ·rename_i ad l c
  have hω:ω ad.block=I ℓ0:=h0.1
  exact hz.other (.inl (by rw[hω];intro h;exact bL (I.inj h).symm))
 ·rename_i n ad
  have hω:ω ad.block=I ℓ0:=h0.1
  exact hz.other (.inl (by rw[hω];intro h;exact bL (I.inj h).symm))
 ·exact hz
theorem KF {B ℓ0 ℓ' x cv}(h0:aO C ω w B ℓ0 x cv):aO C (uR ω x cv ℓ') w B ℓ' x cv:=by
 unfold uR
 split
 ·exact⟨by simp[cR],h0.2⟩
 ·exact⟨by simp[cR],h0.2⟩
 ·rename_i h1 h2
  unfold aO
  split
  ·exact absurd rfl (h1 _ _ _ _ _ _ rfl)
  ·exact absurd rfl (h2 _ _ rfl)
  ·trivial
theorem vW {b cs}(h:jt hp b=I cs):hp[b]?=I (.cells cs):=by
 unfold jt at h
 split at h
 ·rename_i eE h';cases h;exact h'
 ·cases h
theorem Av {b x h'}(h:jr hp b x=I h'):h'=hp.set b x:=by
 unfold jr at h
 cases hb:Yq b hp.length with
 |false=>simp[hb]at h
 |true=>simpa[hb]using h.symm
theorem bK.store {ω':Nat→Option Loc}{B b r off:Nat}{cs:List (AVal×Bool)}{us:List AVal}{news:List Value}{fl:List Bool}{vs:Array Value}{t:TypeId}(KG:fl.length=us.length)(hr:aW C us news)(h1:∀v∈news,v.oneCell'=Ga)
  (hl:off+us.length≤cs.length) (c7:cs.length≤vs.size) (hold:∀j c,cs[j]?=I c→∃v,vs[j]?=I v∧v.oneCell'=Ga∧bT C c.1 v∧(c.2=Ga→aO C ω' w' B (.cell b j) c.1 v))
  (dr:∀j u v,us[j]?=I u→news[j]?=I v→fl[j]?=I Ga→aO C ω' w' B (.cell b (off+j)) u v)
  (hg:w'.heap[r]?=I (.cells (vs.toList.take off++news++vs.toList.drop (off+news.length)).toArray t (0,0))):
  bK P C ω' w' B b r (.cells (cs.take off++us.zip fl++cs.drop (off+us.length))):=by
 have ni:=hr.length
 refine⟨_,t,hg,?_,?_⟩
 ·simp;omega
 ·intro j c hc
  rw[Ha]at hc
  have e1:(Yc off cs).length=off:=by simp;omega
  have e2:(us.zip fl).length=us.length:=by simp[KG]
  have f1:(Yc off vs.toList).length=off:=by simp;omega
  simp only[Gp,Ha]
  by_cases hj:j<off
  ·rw[Gf (by omega),G4 hj]at hc
   obtain⟨v,a1,a2,a3,a4⟩:=hold j c hc
   exact⟨v,by rw[Gf (by omega),G4 hj,Gm];exact a1,a2,a3,a4⟩
  ·rw[Gj (by omega),e1]at hc
   by_cases hj2:j<off+us.length
   ·rw[Gf (by omega)]at hc
    have dS:=List.getElem?_zip_eq_some.1 hc
    obtain⟨v,a1,a2⟩:=hr.get dS.1
    refine⟨v,by rw[Gj (by omega),f1,Gf (by omega)];exact a1,h1 v (G5 a1),a2,fun hf=>?_⟩
    have:=dr (j-off) c.1 v dS.1 a1 (by rw[dS.2,hf])
    rw[show off+(j-off)=j from by omega]at this
    exact this
   ·rw[Gj (by omega),e2,Rh]at hc
    rw[show off+us.length+(j-off-us.length)=j from by omega]at hc
    obtain⟨v,a1,a2,a3,a4⟩:=hold j c hc
    exact⟨v,by rw[Gj (by omega),f1,Gj (by omega),Rh,show off+news.length+(j-off-news.length)=j from by omega,Gm];exact a1,a2,a3,a4⟩
theorem jdw (us:List AVal):us.zip (Ge us.length E9)=us.map (·,E9):=by
 induction us with
 |nil=>rfl
 |cons x us ih=>simp only[List.length_cons,H9,List.zip_cons_cons,ih,Ye]
theorem q40 (m:az P C ω w0 C0 hp w)(e:ak C ω w w0.heap.size env tmps){b r off:Nat}{cs:List (AVal×Bool)}{us:List AVal}{news:List Value}(hb:hp[b]?=I (.cells cs))(hr:C.β b=I r)(gV:aW C us news)(h1:∀v∈news,v.oneCell'=Ga)(hl:off+us.length≤cs.length):
  ∃vs t,w.heap[r]?=I (.cells vs t (0,0))∧off+news.length≤vs.size ∧
   az P C ω w0 C0 (hp.set b (.cells (cs.take off++us.map (·,E9)++cs.drop (off+us.length)))) (w.setRow r (vs.toList.take off++news++vs.toList.drop (off+news.length)).toArray) ∧
   ak C ω (w.setRow r (vs.toList.take off++news++vs.toList.drop (off+news.length)).toArray) w0.heap.size env tmps:=by
 obtain⟨vs,t,hg,c7,hold⟩:=m.box b _ r hb hr
 have hu:=Ft hg (vs.toList.take off++news++vs.toList.drop (off+news.length)).toArray
 have ni:=gV.length
 refine⟨vs,t,hg,by omega,m.dW hu.iO hr _ (fun b' j y v _ h=>h) ?_,e.dI hu.iO hr⟩
 rw[←jdw]
 refine bK.store (by simp) gV h1 hl c7 (fun j c hc=>?_) (fun j u v _ _ hf=>?_) (setRow_heap w r vs _ t (0,0) hg)
 ·obtain⟨v,a1,a2,a3,a4⟩:=hold j c hc
  exact⟨v,a1,a2,a3,fun h=>(a4 h).dI hu.iO hr⟩
 ·rw[List.getElem?_replicate]at hf;split at hf<;>cases hf
theorem QJ {t te:TypeId}{n r off v vs}(hn:jm P t=I n)(hl:v.cells.toList.length=n)(hg:w.heap[r]?=I (.cells vs te (0,0)))(cG:off+v.cells.toList.length≤vs.size)(h1:∀u∈v.cells.toList,u.oneCell'=Ga):
  (storeVar t ⟨r,off,Es⟩ v).run P w=.ok () (w.setRow r (vs.toList.take off++v.cells.toList++vs.toList.drop (off+v.cells.toList.length)).toArray):=by
 have cr:=run_storeCells_at (P:=P) r off te v.cells.toList 0 vs w hg (by simpa using cG) h1
 simp only[T7]at cr
 have:¬(v.cells.size≠n):=by simp at hl;simpa using hl
 simp only[storeVar,Sem.run_bind,yl hn,Result.andThen_ok,this,if_false,Sem.run_ite,cr]
theorem jek (m:az P C ω w0 C0 hp w)(e:ak C ω w w0.heap.size env a.tmps){t:TypeId}{x y x' y' n b q v cs eE h'}(ho:o.op=.store t x y)(hn:jm P t=I n)
  (h1:qt x=I x') (h2:qt y=I y') (e1:qi env x'=I (.ptr b q)) (e2:qi env y'=I v) (lx:jt hp b=I cs) (qF:v.flat.length=n) (cr:jo cs q v.flat=I eE) (bJ:jr hp b (.cells eE)=I h'):
  ∃w',(execOp a.eval o).run P w=.ok .skip w'∧zi P C0 w0 C a.tmps d env ⟨.undef,E9,Es,h'⟩ undef w':=by
 obtain⟨r,hr,hq⟩:=(qv e.ct h1 e1).dw
 unfold jo at cr
 cases hb:(St (q+v.flat.length) cs.length&&v.flat.all ql)with
 |false=>simp[hb]at cr
 |true=>
  simp only[hb,cond_true,I.injEq]at cr
  simp only[Gu]at hb
  subst cr
  have ry:=Al (qv e.ct h2 e2) hb.2
  have dc:=Ao ry (by simpa using hb.2)
  obtain⟨vs,te,hg,cG,m',e'⟩:=q40 m e (vW lx) hr ry dc (Jj hb.1)
  obtain rfl:=Av bJ
  have bE:=QJ (P:=P) hn (by rw[ry.length,qF]) hg cG dc
  exact⟨_,by simp[execOp,ho,Instr.storeAt,hq,Instr.sureAddr,bE],C,ω,aK.le_refl C,m',e',.undef,by simp⟩
theorem q3f (m:az P C ω w0 C0 hp w)(e:ak C ω w w0.heap.size env a.tmps){t:TypeId}{x y:Operand}{x' y':js}{b q s:Nat}{v:AVal}{cs:List (AVal×Bool)}{h':qh}(ho:o.op=.store t x y)(hn:jm P t=I 1)
  (h1:qt x=I x') (h2:qt y=I y') (e1:qi env x'=I (.ptr b q)) (e2:qi env y'=I v) (lx:jt hp b=I cs) (hv:v.cS=Ga) (bz:q<cs.length) (c5:zj env y'=I s) (bJ:jr hp b (.cells (cs.set q (v,Ga)))=I h'):
  ∃w',(execOp a.eval o).run P w=.ok .skip w'∧zi P C0 w0 C a.tmps d env ⟨.undef,E9,I s,h'⟩ undef w':=by
 obtain⟨r,hr,hq⟩:=(qv e.ct h1 e1).dw
 have ry:=qv e.ct h2 e2
 obtain⟨qP,v0,hl⟩:=Fw c5
 have il:v0=v:=by subst qP;simp only[qi,hl]at e2;exact I.inj e2
 subst il
 have kA:v0.flat=[v0]:=by cases v0<;>simp[AVal.cS]at hv<;>rfl
 have hsc:ql v0=Ga:=by cases v0<;>simp[AVal.cS]at hv<;>rfl
 have rf:=Al ry (by rw[kA];simpa using hsc)
 rw[kA]at rf
 have dc:=Ao rf (by simpa using hsc)
 have eg:(a.eval y).cells.toList=[a.eval y]:=by
  have:=QC ry hsc
  cases hh:a.eval y<;>simp[hh,Value.oneCell']at this<;>rfl
 obtain⟨cv,xQ,KD,Ar⟩:=e s _ hl
 have oJ:a.eval y=cv:=by
  have Aw:qt y=I (.tmp s):=by rw[h2,qP]
  cases y with
  |tmp t'=>simp only[qt]at Aw;cases Aw;simp[Act.eval,Gs,xQ]
  |const u=>simp only[qt]at Aw;split at Aw<;>cases Aw
  |func f=>simp[qt]at Aw
  |global g=>simp[qt]at Aw
 obtain⟨vs,te,hg,c7,hold⟩:=m.box b _ r (vW lx) hr
 have hu:=Ft hg (vs.toList.take q++[a.eval y]++vs.toList.drop (q+1)).toArray
 have ig:(a.eval y).cells.toList.length=1:=by rw[eg];rfl
 have bE:=QJ (P:=P) (t:=t) (off:=q) hn ig hg (by omega) dc
 rw[ig,eg]at bE
 obtain rfl:=Av bJ
 have xT:=Ar rfl
 have od:∀ℓ z u,ℓ≠.slot s→aO C ω w w0.heap.size ℓ z u→aO C (uR ω v0 cv (.cell b q)) w w0.heap.size ℓ z u:=fun ℓ z u hℓ hz=>xS xT hℓ hz
 have dr:aO C (uR ω v0 cv (.cell b q)) w w0.heap.size (.cell b q) v0 cv:=KF xT
 have hcs:cs.take q++[(v0,Ga)]++cs.drop (q+1)=cs.set q (v0,Ga):=by
  rw[List.set_eq_take_append_cons_drop,if_pos bz];simp
 refine⟨w.setRow r (vs.toList.take q++[a.eval y]++vs.toList.drop (q+1)).toArray,by simp only[execOp,ho,Instr.storeAt,Sem.run_bind,hq,Instr.sureAddr,Sem.run_pure,Result.andThen_ok,bE],C,uR ω v0 cv (.cell b q),aK.le_refl C,?_,?_,.undef,by simp⟩
 ·refine m.dW hu.iO hr _ (fun b' j z u fE hz=>od _ z u (by simp) hz) ?_
  rw[←hcs]
  have hz:[(v0,Ga)]=[v0].zip [Ga]:=rfl
  rw[hz]
  refine bK.store (us:=[v0]) (fl:=[Ga]) (news:=[a.eval y]) rfl (by rw[←eg];exact rf) (by rw[←eg];exact dc) (by simp;omega) c7 (fun j c hc=>?_) (fun j u v FH iN _=>?_) (setRow_heap w r vs _ te (0,0) hg)
  ·obtain⟨v,a1,a2,a3,a4⟩:=hold j c hc
   exact⟨v,a1,a2,a3,fun h=>(od _ _ _ (by simp) (a4 h)).dI hu.iO hr⟩
  ·cases j with
   |zero=>
    simp at FH iN
    subst FH;subst iN
    have h3:=dr.dI hu.iO hr
    exact oJ▸h3
   |succ j=>simp at FH
 ·intro t' x' fj
  by_cases lQ:t'=s
  ·subst lQ
   simp only[z8,hl,ji,Rt,cond_true]at fj
   cases fj
   exact⟨cv,xQ,KD,by simp⟩
  ·have iQ:ji t' env=I x':=by
    simp only[z8,hl,ji]at fj
    have:Gx s t'=E9:=by
     cases hb:Gx s t' with
     |false=>rfl
     |true=>exact absurd (Gd hb).symm lQ
    rw[this]at fj
    exact fj
   obtain⟨u,k1,k2,k3⟩:=e t' x' iQ
   exact⟨u,k1,k2,fun h=>(od _ _ _ (by simp[lQ]) (k3 h)).dI hu.iO hr⟩
end
section
variable {P:Program}{C C0:aK}{ω:Nat→Option Loc}{w w' w0:World}{hp:qh}{env:Env}{a:Act}{o:Oper}{tmps:Array Value}{d:Loc}
theorem qz8 {s v ow}(hl:ji s env=I (v,ow)){t x}(hx:ji t (z8 env (I s))=I x):(t=s∧x=(v,E9))∨(t≠s∧ji t env=I x):=by
 simp only[z8,hl,ji]at hx
 cases hb:Gx s t with
 |true=>
  simp only[hb,cond_true,I.injEq]at hx
  exact .inl ⟨(Gd hb).symm,hx.symm⟩
 |false=>
  simp only[hb,cond_false]at hx
  refine .inr ⟨fun h=>?_,hx⟩
  subst h
  simp at hb
theorem jgn (m:az P C ω w0 C0 hp w)(e:ak C ω w w0.heap.size env a.tmps){s v ow}(ho:o.op=.move (.tmp s)∨o.op=.assign (.tmp s))(hl:ji s env=I (v,ow)):
  ∃u w',(execOp a.eval o).run P w=.ok (.value u) w'∧zi P C0 w0 C a.tmps d env ⟨v,ow,I s,hp⟩ u w':=by
 obtain⟨cv,h1,h2,h3⟩:=e s _ hl
 have eM:a.eval (.tmp s)=cv:=by simp[Act.eval,Gs,h1]
 have bE:(execOp a.eval o).run P w=.ok (.value cv) w:=by rcases ho with ho|ho<;>simp[execOp,ho,eM]
 refine⟨cv,w,bE,?_⟩
 by_cases hk:ow=Ga
 ·subst hk
  have c5:=h3 rfl
  refine⟨C,uR ω v cv d,aK.le_refl C,?_,?_,h2,fun _=>KF c5⟩
  ·exact { m with box:=fun b x r hx hb=>(m.box b x r hx hb).mono (aK.le_refl C) fun j y u hz=>xS c5 (by simp) hz }
  ·intro t x hx
   rcases qz8 hl hx with⟨rfl,rfl⟩|⟨bL,fj⟩
   ·exact⟨cv,h1,h2,by simp⟩
   ·obtain⟨u,k1,k2,k3⟩:=e t x fj
    exact⟨u,k1,k2,fun h=>xS c5 (by simpa using bL) (k3 h)⟩
 ·refine⟨C,ω,aK.le_refl C,m,e.strip _,h2,fun h=>absurd h hk⟩
theorem q21 (m:az P C ω w0 C0 hp w)(e:ak C ω w w0.heap.size env a.tmps){t:TypeId}{x x' b q v ow cs h'}(ho:o.op=.load t x)(dk:ym P t=I E9)
  (h1:qt x=I x') (e1:qi env x'=I (.ptr b q)) (lx:jt hp b=I cs) (hc:cs[q]?=I (v,ow)) (bJ:jr hp b (.cells (cs.set q (v,E9)))=I h'):
  ∃u w',(execOp a.eval o).run P w=.ok (.value u) w'∧zi P C0 w0 C a.tmps d env ⟨v,ow,Es,h'⟩ u w':=by
 obtain⟨r,hr,hq⟩:=(qv e.ct h1 e1).dw
 obtain⟨vs,te,hg,c7,hold⟩:=m.box b _ r (vW lx) hr
 obtain⟨cv,k1,k2,k3,k4⟩:=hold q _ hc
 obtain rfl:=Av bJ
 have eg:w.cell? ⟨r,q,Es⟩=I cv:=by
  simp only[World.cell?,hg]
  simpa using k1
 have bE:(execOp a.eval o).run P w=.ok (.value cv) w:=by
  simp[execOp,ho,hq,Instr.loadAt,Instr.sureAddr,FC dk eg]
 have hu:nj w w r:=⟨rfl,fun _ _=>rfl,fun c t fr h=>by rw[hg]at h;cases h;rfl,rfl,rfl⟩
 have gF:∀ω':Nat→Option Loc,(∀j c u,j≠q→aO C ω w w0.heap.size (.cell b j) c u→aO C ω' w w0.heap.size (.cell b j) c u)→bK P C ω' w w0.heap.size b r (.cells (cs.set q (v,E9))):=by
  intro ω' hk
  refine⟨vs,te,hg,by simpa using c7,fun j c hj=>?_⟩
  rw[Xy]at hj
  split at hj
  ·rename_i QK
   subst QK
   split at hj
   ·cases hj;exact⟨cv,k1,k2,k3,by simp⟩
   ·cases hj
  ·rename_i QK
   obtain⟨u,a1,a2,a3,a4⟩:=hold j c hj
   exact⟨u,a1,a2,a3,fun h=>hk _ _ _ (Rn QK) (a4 h)⟩
 refine⟨cv,w,bE,?_⟩
 by_cases hk:ow=Ga
 ·subst hk
  have c5:=k4 rfl
  refine⟨C,uR ω v cv d,aK.le_refl C,?_,?_,k3,fun _=>KF c5⟩
  ·exact m.dW hu hr _ (fun b' j y u fE hz=>xS c5 (by simp[fE]) hz) (gF _ fun j c u hj hz=>xS c5 (by simp[hj]) hz)
  ·exact fun t x hx=>let ⟨u,k1,k2,k3⟩:=e t x hx; ⟨u,k1,k2,fun h=>xS c5 (by simp) (k3 h)⟩
 ·refine⟨C,ω,aK.le_refl C,m.dW hu hr _ (fun _ _ _ _ _ h=>h) (gF _ fun _ _ _ _ h=>h),e,k3,fun h=>absurd h hk⟩
end
section
variable {P:Program}{C C0:aK}{ω:Nat→Option Loc}{w w' w0:World}{hp:qh}{env:Env}{a:Act}{o:Oper}{tmps:Array Value}{d:Loc}
theorem qx0 (m:az P C ω w0 C0 hp w)(e:ak C ω w w0.heap.size env a.tmps){t el:TypeId}{x y:Operand}{x' y':js}{n sz b h0 rk:Nat}{z h'}
  (ho:o.op=.makeSlice t x y) (ht:P.underlying t=I (.slice el)) (hn:jm P el=I sz) (hb:nY P el=I b) (hz:yr P el=I z) (QL:0<sz) (ij:z.length=sz)
  (h1:qt x=I x') (h2:qt y=I y') (e1:qi env x'=I (.int .i64 (n:Int))) (e2:qi env y'=I (.int .i64 (n:Int))) (hle:n≤1073741824) (jK:b≤4096)
  (dr:aS h0 hp rk (.cells (cellsOf (Ge n z).flatten))=I h'):
  ∃v w',(execOp a.eval o).run P w=.ok (.value v) w'∧zi P C0 w0 C a.tmps d env ⟨.ms (h0+rk) 0 n,E9,Es,h'⟩ v w':=by
 obtain⟨hh,rfl⟩:=yx dr
 obtain⟨qE,zv,lu,cT,lN⟩:=uO (C:=C) hz
 have nc:zv.cells.toList.length=sz:=by rw[cT.length,ij]
 have jX:((G2 (n*sz)).map (fun i=>zv.cells[i % zv.cells.size]!)).toList=(Ge n zv.cells.toList).flatten:=by
  have:=KB nc QL n
  simpa using this
 have r1:=(qv e.ct h1 e1).bW
 have r2:=(qv e.ct h2 e2).bW
 have fZ:aW C (Ge n z).flatten ((G2 (n*sz)).map (fun i=>zv.cells[i % zv.cells.size]!)).toList:=by
  rw[jX];exact cT.replicate n
 obtain⟨i,hi,qK⟩:∃i,P.info? el=I i∧i.bytes=b:=by
  unfold nY at hb
  cases hi:P.info? el with
  |none=>simp[hi]at hb
  |some i=>exact⟨i,rfl,by simpa[hi]using hb⟩
 have kK:i.size=sz:=by
  unfold jm at hn
  rw[hi]at hn
  simpa using hn
 have qL:IntKind.i64.wrap (n:Int)=n:=by
  rw[←Aj];unfold qe
  have:pZ .i64 (n:Int)=Ga:=by simp[pZ];exact G7 hle (by decide)
  rw[this];rfl
 have Ah:b*n≤281474976710656:=G7 (Jn jK hle) (by decide)
 obtain⟨m',e',cX⟩:=m.aS e hh (.cells ((G2 (n*sz)).map (fun i=>zv.cells[i % zv.cells.size]!)) el) (fun c t fr h=>by cases h;rfl) (.cells (cellsOf (Ge n z).flatten))
  (QI fZ (by
   intro x h
   rw[Rr]at h
   obtain⟨l,q1,q2⟩:=h
   obtain⟨_,rfl⟩:=Ie.1 q1
   exact qE x q2) (by intro j v h;rw[Gm]at h;exact h) (by have:=fZ.length;simp at this;simp;omega))
 refine⟨.slice (I ⟨w.heap.size,0,Es⟩) n n,w.alloc (.cells ((G2 (n*sz)).map (fun i=>zv.cells[i % zv.cells.size]!)) el),?_,_,_,cX,m',e',.ms _ _ _ _ _ (by simp[aK.box]) (Gl _),by simp⟩
 have c1:¬((b:Int)*(n:Int) > 2^48):=by
  have h1:((b*n:Nat):Int)≤281474976710656:=Int.ofNat_le.2 Ah
  rw[Int.natCast_mul]at h1
  have h2:(2:Int)^48=281474976710656:=by decide
  rw[h2];omega
 have c2:¬((n:Int)<0):=by omega
 have hr:G2 0=#[]:=rfl
 simp only[execOp,ho,Instr.makeSlice,Sem.run_bind,run_underlying ht,r1,r2,asInt,asIntOf,Sem.run_pure,Result.andThen_ok,typeInfo,run_program,hi,qK,qL,c2,c1,decide_false,Yb,G3,if_false,Int.lt_irrefl,gt_iff_lt,run_askRoom,Int.toNat_natCast,yl hn,newRow]
 by_cases uL:n=0
 ·subst uL
  simp[hr]
 ·have bL:¬(n*sz=0):=by
   intro h
   rcases Ry.1 h with h|h<;>omega
  simp[bL,lu]
theorem j59 (m:az P C ω w0 C0 hp w)(e:ak C ω w w0.heap.size env tmps){b r s cells}{t:TypeId}{us news}(hh:hp[b]?=I .hole)(hω:ω r=I (.slot s))(hB:w0.heap.size≤r∨C.W r)(hβ:∀b,C.β b≠I r)
  (hg:w.heap[r]?=I (.cells cells t (0,0))) (hK:∀o,C.K r o=Es) (cG:news.length≤cells.size) (gV:aW C us news) (dc:∀v∈news,v.oneCell'=Ga):
  az P (C.box b r) ω w0 C0 (hp.set b (.cells (cellsOf us))) (w.setRow r (cells.toList.take 0++news++cells.toList.drop (0+news.length)).toArray) ∧
  ak (C.box b r) ω (w.setRow r (cells.toList.take 0++news++cells.toList.drop (0+news.length)).toArray) w0.heap.size (z8 env (I s)) tmps∧C.le (C.box b r):=by
 have hu:=Ft hg (cells.toList.take 0++news++cells.toList.drop (0+news.length)).toArray
 have lR:=setRow_heap w r cells (cells.toList.take 0++news++cells.toList.drop (0+news.length)).toArray t (0,0) hg
 generalize w.setRow r (cells.toList.take 0++news++cells.toList.drop (0+news.length)).toArray=w' at hu lR
 have QM:=FE m hh
 have hle:=aK.kM (C:=C) (r:=r) QM
 have bz:b<hp.length:=(Gi.1 hh).1
 have QN:r<w.heap.size:=(Gv.1 hg).1
 have c5:∀ℓ x v,ℓ≠.slot s→aO C ω w w0.heap.size ℓ x v→aO (C.box b r) ω w' w0.heap.size ℓ x v:=by
  intro ℓ x v hℓ ho
  have bL:ω r≠I ℓ:=by rw[hω];intro h;exact hℓ (I.inj h).symm
  exact(ho.box (.inr bL)).iO hu bL
 refine⟨?_,?_,hle⟩
 ·refine { base:=m.base,know:=?_,dq:=m.dq,apart:=?_,inj:=?_,lt:=?_,size:=?_,frame:=?_,fo:=?_,os:=hu.os.trans m.os,output:=hu.output.trans m.output,fresh:=?_,grown:=aK.le_trans m.grown hle,old:=m.old,box:=?_,iF:=fun q hq=>by rw[hu.size];exact m.iF q hq }
  ·intro k q v hk
   have ik:k≠r:=fun h=>by
    have eQ:C.K k q=I v:=hk
    rw[h,hK q]at eQ;cases eQ
   have hc:=m.know _ _ _ hk
   simp only[World.cell?]at hc ⊢
   rw[hu.other k ik];exact hc
  ·intro k q p hk
   simp only[aK.box]at hk
   split at hk
   ·cases hk;exact hK p
   ·exact m.apart k q p hk
  ·intro k k' q hk eQ
   simp only[aK.box]at hk eQ
   split at hk<;>split at eQ
   ·rename_i h1 h2;rw[h1,h2]
   ·cases hk;exact absurd eQ (hβ k')
   ·cases eQ;exact absurd hk (hβ k)
   ·exact m.inj k k' q hk eQ
  ·intro k q hk
   rw[Jo,hu.size]
   simp only[aK.box]at hk
   split at hk
   ·rename_i h1;cases hk;subst h1;exact⟨QN,bz⟩
   ·exact m.lt k q hk
  ·rw[hu.size];exact m.size
  ·intro k hk hn hw
   have ik:k≠r:=fun h=>by
    subst h
    rcases hB with h|h
    ·omega
    ·rw[m.grown.w]at h;exact hw h
   rw[hu.other k ik];exact m.frame k hk hn hw
  ·intro k hk
   have ik:k≠r:=fun h=>by
    subst h
    have:=m.fo k hk
    rw[hg]at this;cases this
   rw[hu.other k ik];exact m.fo k hk
  ·intro k q hk
   simp only[aK.box]at hk
   split at hk
   ·cases hk
    rcases hB with h|h
    ·exact .inr (.inl h)
    ·rw[m.grown.w]at h;exact .inr (.inr h)
   ·exact m.fresh k q hk
  ·intro k x q hx hk
   simp only[aK.box]at hk
   split at hk
   ·rename_i h1
    subst h1
    cases hk
    rw[Gz bz]at hx
    cases hx
    have ni:=gV.length
    refine⟨_,t,lR,by simp[cellsOf];omega,?_⟩
    intro j c hc
    simp only[cellsOf,Jd,En]at hc
    obtain⟨x,hx,rfl⟩:=hc
    obtain⟨v,h1,h2⟩:=gV.get hx
    have hj:j<news.length:=(Gi.1 h1).1
    refine⟨v,?_,dc v (G5 h1),aH.mono hle h2,by simp⟩
    simp only[List.take_zero,Rg,Gp]
    rw[Gf hj];exact h1
   ·rename_i h1
    rw[Hb (Rn h1)]at hx
    have bL:q≠r:=fun h=>hβ k (h▸hk)
    have lv:bK P C ω w' w0.heap.size k q x:=(m.box k x q hx hk).iO hu bL (fun j=>by rw[hω];simp)
    exact lv.mono hle fun j y v ho=>ho.box (.inr (by rw[hω];simp))
 ·intro t' x hx
  by_cases lQ:t'=s
  ·subst lQ
   simp only[z8]at hx
   cases hl:ji t' env with
   |none=>rw[hl]at hx;simp only[hl]at hx;cases hx
   |some y=>
    rw[hl]at hx
    simp only[ji,Rt,cond_true]at hx
    cases hx
    obtain⟨v,h2,h3,_⟩:=e t' y hl
    exact⟨v,h2,aH.mono hle h3,by simp⟩
  ·have fj:ji t' env=I x:=by
    simp only[z8]at hx
    cases hl:ji s env with
    |none=>rw[hl]at hx;exact hx
    |some y=>
     rw[hl]at hx
     simp only[ji]at hx
     have:Gx s t'=E9:=by
      cases hb:Gx s t' with
      |false=>rfl
      |true=>exact absurd (Gd hb).symm lQ
     rw[this]at hx
     exact hx
   obtain⟨v,h2,h3,h4⟩:=e t' x fj
   exact⟨v,h2,aH.mono hle h3,fun h=>c5 _ _ _ (by simp[lQ]) (h4 h)⟩
theorem q6o {xs vs}{t:TypeId}{B b r cells}(hr:aW C xs vs)(dc:∀v∈vs,v.oneCell'=Ga)(hv:∀(j:Nat) v,vs[j]?=I v→cells[j]?=I v)(hl:xs.length≤cells.size):
  ∀C' ω' w',C.le C'→w'.heap[r]?=I (.cells cells t (0,0))→bK P C' ω' w' B b r (.cells (cellsOf xs)):=by
 intro C' ω' w' hle hg
 refine⟨cells,t,hg,by simpa[cellsOf]using hl,?_⟩
 intro j c hc
 simp only[cellsOf,Jd,En]at hc
 obtain⟨x,hx,rfl⟩:=hc
 obtain⟨v,h1,h2⟩:=hr.get hx
 exact⟨v,hv j v h1,dc v (G5 h1),aH.mono hle h2,by simp⟩
theorem qz9 (m:az P C ω w0 C0 hp w)(e:ak C ω w w0.heap.size env a.tmps){c}{t u el:TypeId}{ut:TypeDesc}{x y x' y' sz b h0 rk n dj ys vy h'}
  (ho:o.op=.call c) (ea:c.callee=.builtin .append) (eo:c.args.toList=[x,y]) (eP:c.argTypes.toList=[t,u]) (ht:P.underlying t=I (.slice el)) (hu:P.underlying u=I ut) (jL:Ab ut=Ga)
  (hn:jm P el=I sz) (hb:nY P el=I b) (h1:qt x=I x') (h2:qt y=I y') (e1:qi env x'=I (.list n dj [])) (e2:qi env y'=I vy) (cW:zq sz vy=I ys)
  (c5:(zj env x').isSome=Ga) (QO:n=E9) (hlen:ys.length≤1073741824) (jK:b≤4096) (hzero:∃z,yr P el=I z∧z.length=sz) (As:sz=dj)
  (dr:aS h0 hp rk (.cells (cellsOf (ys.flatMap AVal.flat)))=I h'):
  ∃v w',(execOp a.eval o).run P w=.ok (.value v) w'∧zi P C0 w0 C a.tmps d env ⟨.ms (h0+rk) 0 ys.length,E9,zj env x',h'⟩ v w':=by
 obtain⟨hh,rfl⟩:=yx dr
 subst QO
 subst As
 have ha:c.args=#[x,y]:=by apply Gy;simpa using eo
 have lM:c.argTypes=#[t,u]:=by apply Gy;simpa using eP
 obtain⟨i,hi,qK⟩:∃i,P.info? el=I i∧i.bytes=b:=by
  unfold nY at hb
  cases hi:P.info? el with
  |none=>simp[hi]at hb
  |some i=>exact⟨i,rfl,by simpa[hi]using hb⟩
 have kK:i.size=sz:=by
  unfold jm at hn;rw[hi]at hn;simpa using hn
 obtain⟨z,hz,Au⟩:=hzero
 obtain⟨zv,nh⟩:∃zv,i.zero=I zv:=by
  unfold yr at hz;rw[hi]at hz
  cases hq:i.zero with
  |none=>simp[hq]at hz
  |some v=>exact⟨v,rfl⟩
 have rx:=qv e.ct h1 e1
 have ry:=qv e.ct h2 e2
 obtain⟨news,hs,db,fM,dc⟩:=KC m hu jL cW ry
 have eZ:∀ {z:Value} {w':World},(Builtin.append_ #[t,u] o.type #[a.eval x,a.eval y]).run P w=.ok z w'→(execOp a.eval o).run P w=.ok (.value z) w':=by
  intro z w' h
  simp[execOp,ho,resolve,ea,ha,lM,invoke,builtin,h]
 have ni:news.length=ys.length*sz:=by rw[db.length,yj ys fM]
 rcases rx.da with⟨hh1,_,_⟩|⟨_,r,q,cap,hx,hle,dl⟩|⟨_,_,ad,mH,hx⟩
 rotate_right
 ·exact absurd (q5d e h1 c5 e1 hx) mH
 ·cases hh1
 ·obtain⟨s,gW⟩:=Ld.1 c5
  obtain⟨fj,v0,hl⟩:=Fw gW
  have il:v0=.list E9 sz []:=by
   subst fj
   simp only[qi,hl]at e1
   exact I.inj e1
  subst il
  obtain⟨cv,xQ,KD,Ar⟩:=e s _ hl
  have oJ:cv=.slice (I ⟨r,q,Es⟩) 0 cap:=by
   have iP:qt x=I (.tmp s):=by rw[h1,fj]
   cases x with
   |tmp t'=>
    simp only[qt]at iP
    cases iP
    have:a.eval (.tmp s)=cv:=by simp[Act.eval,Gs,xQ]
    rw[←this,hx];rfl
   |const u=>simp only[qt]at iP;split at iP<;>cases iP
   |func f=>simp[qt]at iP
   |global g=>simp[qt]at iP
  subst oJ
  obtain⟨hω,hB,hβ,_,KE,⟨cells,te,hg,cG⟩,hK⟩:=Ar rfl
  simp only at hω hB hβ hg cG hK KE
  subst KE
  simp only[List.length_nil]at hx
  by_cases ez:0+ys.length≤cap
  ·have gE:(0+ys.length)*sz≤cap*sz:=Gt _ ez
   have bE:=QE (P:=P) (w:=w) (ty:=o.type) ht hi r 0 0 cap (a.eval y) ys.length news (kK▸hs) ez hg (by rw[ni];simp at gE cG ⊢;omega)
   rw[←hx]at bE
   have e0:0+0*i.size=0:=by simp
   rw[e0]at bE
   obtain⟨m',e',cX⟩:=j59 (tmps:=a.tmps) m e hh hω hB hβ hg (fun o=>hK o (by simp)) (by rw[ni];simp at gE cG ⊢;omega) db dc
   rw[gW]
   refine⟨_,_,eZ bE,_,_,cX,m',e',?_,by simp⟩
   have:=aH.ms (C:=C.box (h0+rk) r) (h0+rk) 0 ys.length r cap (by simp[aK.box]) (by omega)
   simpa using this
  ·have FI:Builtin.nextslicecap (0+ys.length) cap*i.bytes≤281474976710656:=growslice_fits (by omega) (by
    rw[qK]
    exact G7 (Jn (by omega) jK) (by decide:2^30*4096≤_))
   have bE:=run_append_grow_src w t u o.type el i zv ht hi nh (I ⟨r,0,Es⟩) 0 cap [] (run_firstCells_some _ _ _ _ _ _ [] (by simp) (by simp)) (a.eval y) ys.length news (kK▸hs) (by omega) (by omega) FI
   rw[←hx]at bE
   have uQ:=grownCap_ge w (0+ys.length) cap el
   have iQ:Ext w w.drew:=Ext.drew w
   obtain⟨m',e',cX⟩:=(m.ext iQ).aS (e.ext iQ) hh (.cells (([]++news).toArray++Builtin.zeroCells zv.cells (grownCap w (0+ys.length) cap el-(0+ys.length))) el) (fun c t fr h=>by cases h;rfl) (.cells (cellsOf (ys.flatMap AVal.flat)))
    (q6o db dc (by
     intro j v hj
     rw[G6 (by simpa using(Gi.1 hj).1)]
     simpa using hj) (by have h5:=db.length;rw[Rp];simp only[Rg,Np];omega))
   refine⟨_,_,eZ bE,_,_,cX,m',e'.strip _,?_,by simp⟩
   have:=aH.ms (C:=C.box (h0+rk) w.drew.heap.size) (h0+rk) 0 ys.length w.drew.heap.size (grownCap w (0+ys.length) cap el) (by simp[aK.box]) (by omega)
   simpa using this
end
section
variable {P:Program}{C C0:aK}{ω:Nat→Option Loc}{w w' w0:World}{hp:qh}{env:Env}{a:Act}{o:Oper}{tmps:Array Value}{d:Loc}
theorem KH {b bN len v}(h:bT C (.aj b bN len) v):∃r0 r cap,C.β b=I r0∧C.T (r0,bN,r,cap)∧len≤cap∧v=.slice (I ⟨r,0,Es⟩) len cap:=by
 cases h with
 |aj _ _ _ r0 r cap hb ht hl=>exact⟨r0,r,cap,hb,ht,hl,rfl⟩
theorem q7g {b bN off v}(h:bT C (.di b bN off) v):∃r0 r cap,C.β b=I r0∧C.T (r0,bN,r,cap)∧v=.pointer (I ⟨r,off,Es⟩):=by
 cases h with
 |di _ _ _ r0 r cap hb ht=>exact⟨r0,r,cap,hb,ht,rfl⟩
theorem qx6 {t:TypeId}{x x' i fs f n b bN q}(he:bw C env a.tmps)(ho:o.op=.fieldAddr t x i)(ht:P.underlying t=I (.struct fs))(hf:fs[i]?=I f)
  (hn:jm P f.type=I n) (uL:0<n) (h1:qt x=I x') (e1:qi env x'=I (.di b bN q)):Val P C a o w (.di b bN (q+f.offset)):=by
 obtain⟨r0,r,cap,hb,hT,hq⟩:=q7g (qv he h1 e1)
 refine⟨.pointer (I ⟨r,q+f.offset,Es⟩),?_,.di _ _ _ r0 r cap hb hT⟩
 simp[execOp,ho,Instr.fieldAt,run_underlying ht,hf,hq,Instr.sureAddr,fieldPlace,yl hn,Nat.pos_iff_ne_zero.1 uL,add_lit]
theorem qyy {t e:TypeId}{x i x' i' sz iv b bN len j}(he:bw C env a.tmps)(ho:o.op=.indexAddr t x i)(ht:P.underlying t=I (.slice e))
  (hn:jm P e=I sz) (h1:qt x=I x') (h2:qt i=I i') (e1:qi env x'=I (.aj b bN len)) (e2:qi env i'=I iv) (hj:idx len iv=I j):Val P C a o w (.di b bN (j*sz)):=by
 obtain⟨r0,r,cap,hb,hT,_,hq⟩:=KH (qv he h1 e1)
 obtain⟨k,rfl,bz⟩:=Fp hj
 have hi:=(qv he h2 e2).bW
 refine⟨.pointer (I ⟨r,j*sz,Es⟩),?_,.di _ _ _ r0 r cap hb hT⟩
 simp[execOp,ho,Instr.indexAt,run_underlying ht,hq,hi,asIntOf,yl hn,bz,add_lit]
theorem q9z {t e:TypeId}{x lo hi x' lL fY sz j b bN len}(he:bw C env a.tmps)(ho:o.op=.slice t x lo hi Es)(ht:P.underlying t=I (.slice e))
  (hn:jm P e=I sz) (h1:qt x=I x') (h2:mW lo=I lL) (h3:mW hi=I fY) (e1:qi env x'=I (.aj b bN len)) (b2:fC env len len fY=I j) (b1:fC env 0 j lL=I 0):Val P C a o w (.aj b bN j):=by
 obtain⟨r0,r,cap,hb,hT,hl,hq⟩:=KH (qv he h1 e1)
 obtain⟨iH,k1,k2⟩:=Ky (P:=P) (isS:=true) he h2 h3 b2 b1 hl w
 refine⟨.slice (I ⟨r,0,Es⟩) j cap,?_,.aj _ _ _ r0 r cap hb hT (by omega)⟩
 simp[execOp,ho,Instr.sliceAt,Instr.slice,run_underlying ht,hq,iH,yl hn,add_lit]
theorem jlg {c x}{t e:TypeId}{x' b bN n}(he:bw C env a.tmps)(ho:o.op=.call c)(ea:c.callee=.builtin .len)(eo:c.args.toList=[x])(eP:c.argTypes.toList=[t])
  (h1:qt x=I x') (e1:qi env x'=I (.aj b bN n)) (ht:P.underlying t=I (.slice e)):Val P C a o w (.int .i64 n):=by
 have ha:c.args=#[x]:=by apply Gy;simpa using eo
 have lM:c.argTypes=#[t]:=by apply Gy;simpa using eP
 refine⟨.int .i64 n,?_,.int _ _⟩
 simp only[execOp,ho,resolve,ea,ha,lM,Sem.run_bind,Sem.run_pure,Result.andThen_ok,invoke,builtin,Builtin.len_]
 obtain⟨r0,r,cap,_,_,_,hq⟩:=KH (qv he h1 e1)
 simp[run_underlying ht,hq,goInt]
theorem jgg (m:az P C ω w0 C0 hp w){b bN q cap r0 sz xs}(hb:C.β b=I r0)(hT:C.T (r0,bN,q,cap))(gG:hp[b]?=I (.vec sz bN xs)):
  ∃vs,aW C (xs.flatMap AVal.flat) vs∧(∀(j:Nat) v,vs[j]?=I v→w.cell? ⟨q,j,Es⟩=I v∧v.oneCell'=Ga)∧ew C.K w q sz xs cap:=by
 obtain⟨q',kN,k1,k2,k3,k4,_⟩:=m.box b _ r0 gG hb
 have heq:=(k2 _ hT rfl).2 rfl
 simp only[Prod.mk.injEq]at heq
 obtain⟨rfl,rfl⟩:=heq
 obtain⟨cells,t,vs,g1,g2,g3,g4,g5,g6,g7⟩:=id k3
 refine⟨vs,aH.imp (C:=.b3 C.K) (C':=C) ⟨fun _ _ _ h=>h,fun b r h=>by cases h⟩ g5 (fun _ h=>h.elim),fun j v hj=>⟨?_,g7 v (G5 hj)⟩,k3⟩
 unfold World.cell?
 rw[g1]
 simp only[If,G3,if_false]
 exact g6 j v hj
theorem qz0 (m:az P C ω w0 C0 hp w)(he:bw C env a.tmps){t:TypeId}{x x' n ag b bN q sz xs v}(ho:o.op=.load t x)(hg:ym P t=I ag)(hn:jm P t=I n)(h1:qt x=I x')(e1:qi env x'=I (.di b bN q))
  (gG:hp[b]?=I (.vec sz bN xs)) (hl:q+n≤(xs.flatMap AVal.flat).length) (hv:(ag=Ga∧v=.agg (((xs.flatMap AVal.flat).drop q).take n))∨(ag=E9∧((xs.flatMap AVal.flat).drop q).take n=[v])):Val P C a o w v:=by
 obtain⟨r0,r,cap,hb,hT,hq⟩:=q7g (qv he h1 e1)
 obtain⟨vs,k1,k2,_⟩:=jgg m hb hT gG
 have k3:aW C (((xs.flatMap AVal.flat).drop q).take n) ((vs.drop q).take n):=(k1.drop q).take n
 have k4:∀j u,((vs.drop q).take n)[j]?=I u→w.cell? ⟨r,q+j,Es⟩=I u:=by
  intro j u hj
  rw[S5]at hj
  split at hj
  ·rw[Rh]at hj;exact(k2 _ _ hj).1
  ·cases hj
 have k5:((vs.drop q).take n).length=n:=by rw[k3.length,Xz,List.length_drop];omega
 rcases hv with⟨rfl,rfl⟩|⟨rfl,hv⟩
 ·exact⟨.agg ⟨(vs.drop q).take n⟩,by simp[execOp,ho,Instr.loadAt,hq,Instr.sureAddr,FB hg hn k5 k4],.agg _ _ k3⟩
 ·rw[hv]at k3
  generalize hgen:(vs.drop q).take n=us at k3 k4 k5
  cases k3 with
  |cons _ _ u us hu kJ=>
   cases kJ
   refine⟨u,?_,hu⟩
   have:=FC (P:=P) hg (by simpa using k4 0 u rfl)
   simp[execOp,ho,Instr.loadAt,hq,Instr.sureAddr,this]
def aK.tok (C:aK)(x:Nat×Nat×Nat×Nat):aK:={ C with T:=fun q=>C.T q∨q=x }
theorem aK.gH {x}:C.le (C.tok x):=⟨fun _ _ _ h=>h,fun _ _ h=>h,rfl,fun _ h=>h,fun _ h=>.inl h⟩
theorem aO.tok {x B ℓ y v}(h:aO C ω w B ℓ y v):aO (C.tok x) ω w B ℓ y v:=by
 unfold aO at *
 exact h
theorem ak.tok {x B}(e:ak C ω w B env tmps):ak (C.tok x) ω w B env tmps:=
 fun s y hy=>let ⟨v,h1,h2,h3⟩:=e s y hy; ⟨v,h1,aH.mono aK.gH h2,fun h=>(h3 h).tok⟩
theorem az.qQ (m:az P C ω w0 C0 hp w){b r sz bN q cap xs}(hβ:C.β b=I r)(hT:∀x,C.T x→x.1=r→x.2.1<bN)(hv:ew C.K w q sz xs cap)(ho:q=r∨xN C ω w w0.heap.size b q xs.length cap)(hr:∃cs t,w.heap[r]?=I (.cells cs t (0,0))):
  az P (C.tok (r,bN,q,cap)) ω w0 C0 (hp.set b (.vec sz bN xs)) w:=by
 have bz:=m.lt b r hβ
 refine { m with lt:=fun k p hk=>by rw[Jo];exact m.lt k p hk,grown:=aK.le_trans m.grown aK.gH,box:=?_,iF:=?_ }
 ·intro k y p hy hk
  by_cases kL:k=b
  ·subst kL
   rw[Gz bz.2]at hy
   cases hy
   obtain rfl:r=p:=by have:C.β k=I p:=hk;rw[hβ]at this;exact I.inj this
   refine⟨q,cap,.inr rfl,fun x hx hxr=>?_,hv,ho.imp id fun h=>h.tok,hr⟩
   rcases hx with hx|rfl
   ·have:=hT x hx hxr
    exact⟨by omega,fun h=>by omega⟩
   ·exact⟨Gl _,fun _=>rfl⟩
  ·rw[Hb (Rn kL)]at hy
   have qJ:p≠r:=fun h=>kL (m.inj k b p hk (h▸hβ))
   refine(m.box k y p hy hk).mono aK.gH (fun j z u h=>h.tok) (fun x hx hxp=>?_)
   rcases hx with hx|rfl
   ·exact hx
   ·exact absurd hxp.symm qJ
 ·intro x hx
  rcases hx with hx|rfl
  ·exact m.iF x hx
  ·exact bz.1
theorem az.qR (m:az P C ω w0 C0 hp w){b r}(hβ:C.β b=I r)(hr:∃cs t,w.heap[r]?=I (.cells cs t (0,0))):az P C ω w0 C0 (hp.set b .dead) w:=
 m.dW (ω':=ω) (w':=w) (r:=r) (b:=b) ⟨rfl,fun _ _=>rfl,fun c t fr h=>by obtain⟨cs,t',h'⟩:=hr;rw[h']at h;cases h;rfl,rfl,rfl⟩ hβ .dead (fun _ _ _ _ _ h=>h) hr
theorem az.Ax (m:az P C ω w0 C0 hp w){b q n cap cs}(hd:hp[b]?=I .dead)(ho:xN C ω w w0.heap.size b q n cap)(hu:gD w w' q cs):az P C ω w0 C0 hp w':=by
 obtain⟨h1,h2,h3,_,_,⟨cells,elem,h5,_⟩,h7⟩:=ho
 simp only at h1 h2 h3 h5 h7
 have hK:∀o,C.K q o=Es:=fun o=>h7 o (by simp)
 refine { base:=m.base,know:=?_,dq:=m.dq,apart:=m.apart,inj:=m.inj,lt:=?_,size:=?_,frame:=?_,fo:=?_,os:=hu.os.trans m.os,output:=hu.output.trans m.output,fresh:=m.fresh,grown:=m.grown,old:=m.old,box:=?_,iF:=fun x hx=>by rw[hu.size];exact m.iF x hx }
 ·intro k p v hk
  have bL:k≠q:=fun h=>by rw[h,hK p]at hk;cases hk
  have hc:=m.know _ _ _ hk
  simp only[World.cell?]at hc ⊢
  rw[hu.other k bL];exact hc
 ·intro k p hk;rw[hu.size];exact m.lt k p hk
 ·rw[hu.size];exact m.size
 ·intro k hk hn hw
  have bL:k≠q:=fun h=>by
   subst h
   rcases h2 with h|h
   ·omega
   ·rw[m.grown.w]at h;exact hw h
  rw[hu.other k bL];exact m.frame k hk hn hw
 ·intro k hk
  have bL:k≠q:=fun h=>by
   subst h
   have:=m.fo k hk
   rw[h5]at this;cases this
  rw[hu.other k bL];exact m.fo k hk
 ·intro k x p hx hk
  have bL:p≠q:=fun h=>h3 k (h▸hk)
  by_cases kL:k=b
  ·subst kL
   rw[hd]at hx
   cases hx
   obtain⟨eE,t',hg⟩:=m.box k .dead p hd hk
   exact⟨eE,t',by rw[hu.other p bL];exact hg⟩
  ·exact(m.box k x p hx hk).iO hu bL (fun j=>by rw[h1];intro h;injection h with h;injection h with h _;exact kL h.symm)
theorem qpi {sz}:∀ {xs:List AVal} (n:Nat),(∀x∈xs,x.flat.length=sz)→(xs.take n).flatMap AVal.flat=(xs.flatMap AVal.flat).take (n*sz)
 | [],n,_=>by simp
 |x::xs,0,_=>by simp
 |x::xs,n+1,h=>by
  have hx:=h x (S6 ..)
  have h1:x.flat.take ((n+1)*sz)=x.flat:=List.take_of_length_le (by rw[hx,T6];omega)
  have h2:(n+1)*sz-sz=n*sz:=by rw[T6];omega
  rw[List.take_succ_cons,Jf,Jf,qpi n (fun y hy=>h y (R0 _ hy)),List.take_append,hx,h1,h2]
theorem ew.grown {K q q' sz len cap kN xs ys news eG dM}{t':TypeId}(h:ew K w q sz xs cap)(hl:len≤xs.length)(db:aW (.b3 K) (ys.flatMap AVal.flat) news)(fM:∀y∈ys,y.flat.length=sz)(dc:∀v∈news,v.oneCell'=Ga)
  (hold:∀vs:List Value,aW (.b3 K) (xs.flatMap AVal.flat) vs→(∀(j:Nat) v,vs[j]?=I v→w.cell? ⟨q,j,Es⟩=I v)→eG=vs.take (len*sz)) (hcap:len+ys.length≤kN) (cG:kN*sz≤dM.size)
  (hg:w'.heap[q']?=I (.cells dM t' (0,0))) (hc:∀(j:Nat) v,(eG++news)[j]?=I v→dM[j]?=I v):ew K w' q' sz (xs.take len++ys) kN:=by
 obtain⟨cells,t,vs,g1,g2,g3,g4,g5,g6,g7⟩:=h
 have ho:eG=vs.take (len*sz):=hold vs g5 (fun j v hj=>by
  unfold World.cell?
  rw[g1]
  simp only[If,G3,if_false]
  exact g6 j v hj)
 refine⟨dM,t',eG++news,hg,by rw[Le,Xz];omega,cG,?_,?_,hc,?_⟩
 ·intro x hx
  rcases Jc.1 hx with hx|hx
  ·exact g4 x (Qe hx)
  ·exact fM x hx
 ·rw[S4,qpi len g4,ho]
  exact(g5.take _).append db
 ·intro v hv
  rcases Jc.1 hv with hv|hv
  ·rw[ho]at hv;exact g7 v (Qe hv)
  ·exact dc v hv
theorem aW.pure {xs vs}(h:aW C xs vs)(hb:qw 0 xs=Ga):aW (.b3 C.K) xs vs:=
 aH.shift (C:=C) (C':=.b3 C.K) 0 (fun _ _ _ h=>h) (fun b r bz=>by omega) h hb
theorem QP {n}:∀ {xs:List AVal},qw n xs=Ga→qw n (xs.flatMap AVal.flat)=Ga
 | [],_=>rfl
 |x::xs,h=>by
  simp only[qw,Gu]at h
  have key:∀(ys zs:List AVal),qw n ys=Ga→qw n zs=Ga→qw n (ys++zs)=Ga:=by
   intro ys zs
   induction ys with
   |nil=>intro _ h;exact h
   |cons y ys ih=>intro h1 h2;simp only[qw,Gu,List.cons_append]at h1 ⊢;exact⟨h1.1,ih h1.2 h2⟩
  rw[Jf]
  exact key _ _ (by rw[Kq];exact h.1) (QP h.2)
theorem aW.fun {xs}:∀ {vs ws:List Value},aW C xs vs→aW C xs ws→vs.length=ws.length:=fun h k=>by rw[h.length,k.length]
theorem jf0 (m:az P C ω w0 C0 hp w)(e:ak C ω w w0.heap.size env a.tmps){c}{t u el:TypeId}{ut:TypeDesc}{x y x' y' sz b bx bN len xs ys vy h'}
  (ho:o.op=.call c) (ea:c.callee=.builtin .append) (eo:c.args.toList=[x,y]) (eP:c.argTypes.toList=[t,u]) (ht:P.underlying t=I (.slice el)) (hu:P.underlying u=I ut) (jL:Ab ut=Ga)
  (hn:jm P el=I sz) (hb:nY P el=I b) (h1:qt x=I x') (h2:qt y=I y') (e1:qi env x'=I (.aj bx bN len)) (e2:qi env y'=I vy) (cW:zq sz vy=I ys)
  (gG:hp[bx]?=I (.vec sz bN xs)) (hle:len≤xs.length) (hlen:len+ys.length≤1073741824) (jK:b≤4096) (QQ:qw 0 ys=Ga) (hzero:∃z,yr P el=I z∧z.length=sz)
  (bJ:jr hp bx (.vec sz (bN+1) (xs.take len++ys))=I h'):
  ∃v w',(execOp a.eval o).run P w=.ok (.value v) w'∧zi P C0 w0 C a.tmps d env ⟨.aj bx (bN+1) (len+ys.length),E9,Es,h'⟩ v w':=by
 have ga:h'=hp.set bx (.vec sz (bN+1) (xs.take len++ys)):=by
  unfold jr at bJ
  cases vX:Yq bx hp.length with
  |false=>simp[vX]at bJ
  |true=>simpa[vX]using bJ.symm
 subst ga
 have ha:c.args=#[x,y]:=by apply Gy;simpa using eo
 have lM:c.argTypes=#[t,u]:=by apply Gy;simpa using eP
 obtain⟨i,hi,qK⟩:∃i,P.info? el=I i∧i.bytes=b:=by
  unfold nY at hb
  cases hi:P.info? el with
  |none=>simp[hi]at hb
  |some i=>exact⟨i,rfl,by simpa[hi]using hb⟩
 have kK:i.size=sz:=by
  unfold jm at hn;rw[hi]at hn;simpa using hn
 obtain⟨z,hz,Au⟩:=hzero
 obtain⟨zv,nh⟩:∃zv,i.zero=I zv:=by
  unfold yr at hz;rw[hi]at hz
  cases hq:i.zero with
  |none=>simp[hq]at hz
  |some v=>exact⟨v,rfl⟩
 have ry:=qv e.ct h2 e2
 obtain⟨news,hs,db,fM,dc⟩:=KC m hu jL cW ry
 have qS:aW (.b3 C.K) (ys.flatMap AVal.flat) news:=db.pure (QP QQ)
 have eZ:∀ {z:Value} {w':World},(Builtin.append_ #[t,u] o.type #[a.eval x,a.eval y]).run P w=.ok z w'→(execOp a.eval o).run P w=.ok (.value z) w':=by
  intro z w' h
  simp[execOp,ho,resolve,ea,ha,lM,invoke,builtin,h]
 have ni:news.length=ys.length*sz:=by rw[db.length,yj ys fM]
 obtain⟨r0,q,cap,hβ,hT,hlc,hx⟩:=KH (qv e.ct h1 e1)
 obtain⟨q',kN,k1,k2,k3,k4,k5⟩:=m.box bx _ r0 gG hβ
 have heq:=(k2 _ hT rfl).2 rfl
 simp only[Prod.mk.injEq]at heq
 obtain⟨rfl,rfl⟩:=heq
 have qT:∀x,C.T x→x.1=r0→x.2.1<bN+1:=fun x hx hr=>by have:=(k2 x hx hr).1;omega
 have vX:=(m.lt bx r0 hβ).2
 -- the old cells
 obtain⟨cells,te,vs,g1,g2,g3,g4,g5,g6,g7⟩:=id k3
 have qF:vs.length=xs.length*sz:=by rw[g5.length,yj xs g4]
 have hvle:xs.length*sz≤cap*sz:=Gt _ g2
 have hlle:len*sz≤xs.length*sz:=Gt _ hle
 have hold:∀qU:List Value,aW (.b3 C.K) (xs.flatMap AVal.flat) qU→(∀(j:Nat) v,qU[j]?=I v→w.cell? ⟨q,j,Es⟩=I v)→vs.take (len*sz)=qU.take (len*sz):=by
  intro qU h3 h4
  have hl':qU.length=vs.length:=by rw[h3.length,g5.length]
  have:qU=vs:=by
   apply Rm
   intro j
   by_cases hj:j<vs.length
   ·have h5:=h4 j _ (Gn (by omega))
    have h6:=g6 j _ (Gn hj)
    unfold World.cell? at h5
    rw[g1]at h5
    simp only[If,G3,if_false]at h5
    rw[Gn hj,Gn (by omega),←h5,h6]
   ·rw[Je (by omega),Je (by omega)]
  rw[this]
 by_cases ez:len+ys.length≤cap
 ·-- there is room
  have gE:(len+ys.length)*sz≤cap*sz:=Gt _ ez
  rw[Jg]at gE
  have bE:=QE (P:=P) (w:=w) (ty:=o.type) ht hi q 0 len cap (a.eval y) ys.length news (kK▸hs) ez g1 (by rw[kK,ni];omega)
  rw[←hx,kK]at bE
  have oe:=Ft g1 (cells.toList.take (0+len*sz)++news++cells.toList.drop (0+len*sz+news.length)).toArray
  have lR:=setRow_heap w q cells (cells.toList.take (0+len*sz)++news++cells.toList.drop (0+len*sz+news.length)).toArray te (0,0) g1
  generalize QD:w.setRow q (cells.toList.take (0+len*sz)++news++cells.toList.drop (0+len*sz+news.length)).toArray=w' at bE oe lR
  have Ay:ew C.K w' q sz (xs.take len++ys) cap:=by
   refine ew.grown (eG:=vs.take (len*sz)) k3 hle qS fM dc hold ez (by simp;omega) lR ?_
   intro j v hj
   rw[Gp]
   have eP:(cells.toList.take (0+len*sz)).length=len*sz:=by simp;omega
   have lS:(vs.take (len*sz)).length=len*sz:=by simp;omega
   by_cases Dv:j<len*sz
   ·rw[Ha,Gf (by rw[eP];exact Dv)]
    rw[Gf (by rw[lS];exact Dv),G4 Dv]at hj
    rw[G4 (by omega),Gm]
    exact g6 j v hj
   ·rw[Gj (by rw[lS];omega),lS]at hj
    have hjn:j-len*sz<news.length:=(Gi.1 hj).1
    rw[Ha,Gj (by rw[eP];omega),eP,Gf hjn]
    exact hj
  have fin:∀(m1:az P C ω w0 C0 (hp.set bx .dead) w') (e1:ak C ω w' w0.heap.size env a.tmps) (FA:q=r0∨xN C ω w' w0.heap.size bx q (xs.take len++ys).length cap) (vY:∃cs t,w'.heap[r0]?=I (.cells cs t (0,0))),
    zi P C0 w0 C a.tmps d env ⟨.aj bx (bN+1) (len+ys.length),E9,Es,hp.set bx (.vec sz (bN+1) (xs.take len++ys))⟩ (.slice (I ⟨q,0,Es⟩) (len+ys.length) cap) w':=by
   intro m1 e1 FA vY
   have m2:=m1.qQ (b:=bx) (sz:=sz) (bN:=bN+1) (q:=q) (cap:=cap) (xs:=xs.take len++ys) hβ qT Ay FA vY
   rw[Xw]at m2
   exact⟨_,ω,aK.gH,m2,e1.tok,.aj _ _ _ r0 q cap hβ (.inr rfl) ez,by simp⟩
  refine⟨_,_,eZ bE,?_⟩
  rcases k4 with rfl|k4
  ·refine fin ?_ (e.dI oe.iO hβ) (.inl rfl) ⟨_,_,lR⟩
   exact m.dW oe.iO hβ .dead (fun _ _ _ _ _ h=>h) ⟨_,_,lR⟩
  ·have hqr:q≠r0:=fun h=>k4.2.2.1 bx (by rw[hβ];exact congrArg I h.symm)
   have md:=m.qR hβ k5
   have m1:=md.Ax (by rw[Gz vX]) k4 oe
   obtain⟨QR,t5,k5⟩:=k5
   refine fin m1 ?_ (.inr ?_) ⟨QR,t5,by rw[oe.other _ (Rn hqr)];exact k5⟩
   ·exact fun s y hy=>let ⟨v,j1,j2,j3⟩:=e s y hy; ⟨v,j1,j2,fun h=>(j3 h).iO oe (by rw[k4.1];simp)⟩
   ·obtain⟨j1,j2,j3,j4,j5,_,j7⟩:=k4
    exact⟨j1,j2,j3,j4,j5,⟨_,te,lR,by simp,fun _ _ _ h=>by simp at h⟩,fun o ho=>j7 o (by simp)⟩
 ·-- there is none
  have cG:Builtin.nextslicecap (len+ys.length) cap*i.bytes≤281474976710656:=growslice_fits (by omega) (by
   rw[qK]
   exact G7 (Jn hlen jK) (by decide))
  have FJ:(vs.take (len*sz)).length=len*i.size:=by rw[kK];simp;omega
  have bE:=run_append_grow_src w t u o.type el i zv ht hi nh (I ⟨q,0,Es⟩) len cap (vs.take (len*sz)) (run_firstCells_some _ _ _ _ _ _ _ FJ (fun j v hj=>by
   rw[S5]at hj
   split at hj
   ·have h3:=g6 j v hj
    have h4:w.cell? ⟨q,j,Es⟩=I v:=by
     unfold World.cell?
     rw[g1]
     simp only[If,G3,if_false]
     exact h3
    rw[add_lit,Xx]
    exact h4
   ·cases hj)) (a.eval y) ys.length news (kK▸hs) (by omega) (by omega) cG
  rw[←hx]at bE
  have uQ:=grownCap_ge w (len+ys.length) cap el
  have ij:zv.cells.size=sz:=by
   obtain⟨_,zv',lN,Fy,_⟩:=uO (C:=C) hz
   have:=lN w
   simp[zeroValue,typeInfo,hi,nh]at this
   subst this
   have:=Fy.length
   simp at this
   omega
  generalize eH:((vs.take (len*sz)++news).toArray++Builtin.zeroCells zv.cells (grownCap w (len+ys.length) cap el-(len+ys.length)))=dM at bE
  generalize QS:grownCap w (len+ys.length) cap el=gc at bE uQ eH
  have iQ:Ext w w.drew:=Ext.drew w
  have QT:Ext w.drew (w.drew.alloc (.cells dM el)):=Ext.alloc _ _ (fun c t fr h=>by cases h;rfl)
  have FK:(w.drew.alloc (.cells dM el)).heap[w.drew.heap.size]?=I (.cells dM el (0,0)):=by rw[vU,if_pos rfl]
  have Ay:ew C.K (w.drew.alloc (.cells dM el)) w.drew.heap.size sz (xs.take len++ys) gc:=by
   refine ew.grown (eG:=vs.take (len*sz)) k3 hle qS fM dc hold uQ ?_ FK ?_
   ·rw[←eH]
    have lS:(vs.take (len*sz)).length=len*sz:=by simp;omega
    simp only[Rp,Np,Le,lS,ni]
    have:(Builtin.zeroCells zv.cells (gc-(len+ys.length))).size=(gc-(len+ys.length))*sz:=by simp[Builtin.zeroCells,ij]
    rw[this,←Jg,←Jg]
    exact Gt _ (by omega)
   ·intro j v hj
    rw[←eH,G6 (by simpa using(Gi.1 hj).1)]
    simpa using hj
  have md:=((m.qR hβ k5).ext iQ).kI w.drew.heap.size (.cell bx 0) (Gl _)
  have m1:=md.ext QT
  obtain⟨QR,t5,k5⟩:=k5
  have m2:=m1.qQ (b:=bx) (sz:=sz) (bN:=bN+1) (q:=w.drew.heap.size) (cap:=gc) (xs:=xs.take len++ys) hβ qT Ay (.inr ⟨by simp[cR],.inl (G7 m.size iQ.size),fun k hk=>by have:=(m.lt k _ hk).1;simp at this,rfl,rfl,⟨dM,el,FK,by simp,fun _ _ _ h=>by simp at h⟩,fun o _=>m.jV _ iQ.size o⟩) ⟨QR,t5,(iQ.trans QT).get k5⟩
  rw[Xw]at m2
  refine⟨_,_,eZ bE,_,_,aK.gH,m2,(((e.ext iQ).fresh (Gl _)).ext QT).tok,.aj _ _ _ r0 _ gc hβ (.inr rfl) (by omega),by simp⟩
theorem jd7 (m:az P C ω w0 C0 hp w)(e:ak C ω w w0.heap.size env tmps){bx sz cap xs cells}{te:TypeId}{vs}(hh:hp[bx]?=I .hole)(KI:aW C (xs.flatMap AVal.flat) vs)(Az:qw 0 xs=Ga)(c7:∀x∈xs,x.flat.length=sz)
  (dc:∀v∈vs,v.oneCell'=Ga) (hc:∀(j:Nat) v,vs[j]?=I v→cells[j]?=I v) (hcap:xs.length≤cap) (cG:cap*sz≤cells.size):
  zi P C0 w0 C tmps d env ⟨.aj bx 0 xs.length,E9,Es,hp.set bx (.vec sz 0 xs)⟩ (.slice (I ⟨w.heap.size,0,Es⟩) xs.length cap) (w.alloc (.cells cells te)):=by
 obtain⟨m1,e1,AA⟩:=m.aS e hh (.cells cells te) (fun c t fr h=>by cases h;rfl) .dead (fun C' ω' w' _ hg=>⟨cells,te,hg⟩)
 have FK:(w.alloc (.cells cells te)).heap[w.heap.size]?=I (.cells cells te (0,0)):=by rw[vU,if_pos rfl]
 have hβ:(C.box bx w.heap.size).β bx=I w.heap.size:=by simp[aK.box]
 have m2:=m1.qQ (b:=bx) (r:=w.heap.size) (sz:=sz) (bN:=0) (q:=w.heap.size) (cap:=cap) (xs:=xs) hβ (fun x hx hr=>by have:=m.iF x hx;omega) ⟨cells,te,vs,FK,hcap,cG,c7,KI.pure (QP Az),hc,dc⟩ (.inl rfl) ⟨cells,te,FK⟩
 rw[Xw]at m2
 exact⟨_,ω,aK.le_trans AA aK.gH,m2,e1.tok,.aj _ _ _ w.heap.size w.heap.size cap hβ (.inr rfl) hcap,by simp⟩
theorem jig (m:az P C ω w0 C0 hp w)(e:ak C ω w w0.heap.size env a.tmps){c}{t u el:TypeId}{ut:TypeDesc}{x y x' y' sz QU b h0 rk ys vy h'}
  (ho:o.op=.call c) (ea:c.callee=.builtin .append) (eo:c.args.toList=[x,y]) (eP:c.argTypes.toList=[t,u]) (ht:P.underlying t=I (.slice el)) (hu:P.underlying u=I ut) (jL:Ab ut=Ga)
  (hn:jm P el=I sz) (hb:nY P el=I b) (h1:qt x=I x') (h2:qt y=I y') (e1:qi env x'=I (.list Ga QU [])) (e2:qi env y'=I vy) (cW:zq sz vy=I ys)
  (hlen:ys.length≤1073741824) (bL:ys≠[]) (jK:b≤4096) (QQ:qw 0 ys=Ga) (hzero:∃z,yr P el=I z∧z.length=sz) (dr:aS h0 hp rk (.vec sz 0 ys)=I h'):
  ∃v w',(execOp a.eval o).run P w=.ok (.value v) w'∧zi P C0 w0 C a.tmps d env ⟨.aj (h0+rk) 0 ys.length,E9,Es,h'⟩ v w':=by
 obtain⟨hh,rfl⟩:=yx dr
 have ha:c.args=#[x,y]:=by apply Gy;simpa using eo
 have lM:c.argTypes=#[t,u]:=by apply Gy;simpa using eP
 obtain⟨i,hi,qK⟩:∃i,P.info? el=I i∧i.bytes=b:=by
  unfold nY at hb
  cases hi:P.info? el with
  |none=>simp[hi]at hb
  |some i=>exact⟨i,rfl,by simpa[hi]using hb⟩
 have kK:i.size=sz:=by
  unfold jm at hn;rw[hi]at hn;simpa using hn
 obtain⟨z,hz,Au⟩:=hzero
 obtain⟨zv,nh⟩:∃zv,i.zero=I zv:=by
  unfold yr at hz;rw[hi]at hz
  cases hq:i.zero with
  |none=>simp[hq]at hz
  |some v=>exact⟨v,rfl⟩
 have ry:=qv e.ct h2 e2
 obtain⟨news,hs,db,fM,dc⟩:=KC m hu jL cW ry
 have eZ:∀ {z:Value} {w':World},(Builtin.append_ #[t,u] o.type #[a.eval x,a.eval y]).run P w=.ok z w'→(execOp a.eval o).run P w=.ok (.value z) w':=by
  intro z w' h
  simp[execOp,ho,resolve,ea,ha,lM,invoke,builtin,h]
 have ni:news.length=ys.length*sz:=by rw[db.length,yj ys fM]
 have hx:a.eval x=.slice Es 0 0:=by
  rcases(qv e.ct h1 e1).da with⟨_,_,hx⟩|⟨hf,_⟩|⟨hf,_⟩
  ·exact hx
  ·cases hf
  ·cases hf
 have gI:0<ys.length:=List.length_pos_iff.2 bL
 have cG:Builtin.nextslicecap (0+ys.length) 0*i.bytes≤281474976710656:=growslice_fits (by omega) (by
  rw[qK]
  exact G7 (Jn (by omega) jK) (by decide:2^30*4096≤_))
 have bE:=run_append_grow_src w t u o.type el i zv ht hi nh Es 0 0 [] (run_firstCells_none _ _ _ _ _) (a.eval y) ys.length news (kK▸hs) (by omega) (by omega) cG
 rw[←hx]at bE
 have uQ:=grownCap_ge w (0+ys.length) 0 el
 have ij:zv.cells.size=sz:=by
  obtain⟨_,zv',lN,Fy,_⟩:=uO (C:=C) hz
  have:=lN w
  simp[zeroValue,typeInfo,hi,nh]at this
  subst this
  have:=Fy.length
  simp at this
  omega
 generalize eH:(([]++news).toArray++Builtin.zeroCells zv.cells (grownCap w (0+ys.length) 0 el-(0+ys.length)))=dM at bE
 generalize QS:grownCap w (0+ys.length) 0 el=gc at bE uQ eH
 have iQ:Ext w w.drew:=Ext.drew w
 have:=jd7 (d:=d) (tmps:=a.tmps) (m.ext iQ) (e.ext iQ) (te:=el) (cap:=gc) (sz:=sz) (cells:=dM) hh db QQ fM dc (fun j v hj=>by
  rw[←eH,Rg,G6 (by simpa using(Gi.1 hj).1)]
  simpa using hj) (by omega) (by
   rw[←eH]
   have h5:(Builtin.zeroCells zv.cells (gc-(0+ys.length))).size=(gc-(0+ys.length))*sz:=by simp[Builtin.zeroCells,ij]
   simp only[Rp,Np,Rg,ni,h5]
   rw[←Jg]
   exact Gt _ (by omega))
 rw[Xx]at bE
 exact⟨_,_,eZ bE,this⟩
theorem jg3 (m:az P C ω w0 C0 hp w)(e:ak C ω w w0.heap.size env a.tmps){t el:TypeId}{ps len sz h0 rk z fR qs xs h'}
  (ho:o.op=.buildSlice t len ps) (ht:P.underlying t=I (.slice el)) (hn:jm P el=I sz) (hz:yr P el=I z) (hlen:sz*len≤65536) (QL:0<sz) (ij:z.length=sz)
  (mI:xJ ps.toList=I fR) (hq:yc env sz fR=I qs) (hx:lI (Ge len (uN sz z)) qs=I xs) (Az:qw 0 xs=Ga) (dr:aS h0 hp rk (.vec sz 0 xs)=I h'):
  ∃v w',(execOp a.eval o).run P w=.ok (.value v) w'∧zi P C0 w0 C a.tmps d env ⟨.aj (h0+rk) 0 xs.length,E9,Es,h'⟩ v w':=by
 obtain⟨hh,rfl⟩:=yx dr
 obtain⟨ds,bE,hdr,h1,nf,jY,cG⟩:=qlq (C:=C) (ω:=ω) (w:=w) (w0:=w0) e ho ht hn hz hlen QL ij mI hq hx
 refine⟨_,_,bE,?_⟩
 have eY:=jd7 (d:=d) (tmps:=a.tmps) m e (te:=el) (cap:=len) (sz:=sz) (cells:=ds) hh hdr Az nf h1 (by intro j v h;simpa using h) (by omega) cG
 rw[jY]at eY ⊢
 exact eY
theorem jbl (m:az P C ω w0 C0 hp w)(e:ak C ω w w0.heap.size env a.tmps){t:TypeId}{z}(ho:o.op=.alloc t)(hz:yr P t=I z):
  ∃v w',(execOp a.eval o).run P w=.ok (.value v) w'∧zi P C0 w0 C a.tmps d env ⟨.c8 z.length,Ga,Es,hp⟩ v w':=by
 obtain⟨_,zv,lu,cT,lN⟩:=uO (C:=C) hz
 have hx:Ext w (w.alloc (.cells zv.cells t)):=Ext.alloc w _ (fun c t fr h=>by cases h;rfl)
 have ij:zv.cells.size=z.length:=by have:=cT.length;simpa using this
 refine⟨.pointer (I ⟨w.heap.size,0,Es⟩),_,by simp[execOp,ho,Instr.alloc,lu,newVar,newRow],C,Abs.cR ω w.heap.size d,aK.le_refl C,(m.kI _ d (Gl _)).ext hx,(e.fresh (Gl _)).ext hx,.c8 _ _,fun _=>?_⟩
 refine⟨by simp[Abs.cR],.inl m.size,fun b hb=>by have:=(m.lt b _ hb).1;simp at this,rfl,rfl,⟨zv.cells,t,by rw[vU,if_pos rfl],by simp;omega,fun _ _ _ h=>by simp at h⟩,fun o _=>m.jV _ (Gl _) o⟩
theorem jba (m:az P C ω w0 C0 hp w)(e:ak C ω w w0.heap.size env a.tmps){t:TypeId}{x y y' n s v}(ho:o.op=.store t x y)(hn:jm P t=I n)
  (h1:qt x=I (.tmp s)) (h2:qt y=I y') (hl:ji s env=I (.c8 n,Ga)) (e2:qi env y'=I v) (qF:v.flat.length=n) (hs:v.flat.all ql=Ga):
  ∃w' C' ω',(execOp a.eval o).run P w=.ok .skip w'∧C.le C'∧az P C' ω' w0 C0 hp w'∧ak C' ω' w' w0.heap.size ((s,.ai v,E9)::env) a.tmps:=by
 obtain⟨cv,c1,c2,c3⟩:=e s _ hl
 have eM:a.eval x=cv:=by
  cases x with
  |tmp t'=>
   simp only[qt]at h1
   cases h1
   simp[Act.eval,Gs,c1]
  |const u=>simp only[qt]at h1;split at h1<;>cases h1
  |func f=>simp[qt]at h1
  |global g=>simp[qt]at h1
 cases c2 with
 |c8 _ ad=>
  obtain⟨hω,hB,hβ,mH,vV,⟨cells,te,hg,cG,_⟩,hK⟩:=c3 rfl
  obtain⟨r,q,sp⟩:=ad
  simp only at hω hB hβ mH vV hg cG hK
  subst mH
  subst vV
  have ry:=qv e.ct h2 e2
  have hc:=Al ry hs
  have dc:=Ao hc (fun y hy=>Rq.1 hs y hy)
  have dS:(a.eval y).cells.toList.length=n:=by rw[hc.length,qF]
  have bE:=QJ (P:=P) (t:=t) (off:=0) hn dS hg (by omega) dc
  obtain⟨m',e',hle⟩:=qva (d:=.slot s) m e (r:=r) (q:=0) (news:=(a.eval y).cells.toList) hω hB hβ hg (by omega) (fun o _=>hK o (by simp)) dc
  refine⟨_,_,_,?_,hle,m',?_⟩
  ·simp only[execOp,ho,Instr.storeAt,Sem.run_bind,eM,Instr.sureAddr,Sem.run_pure,Result.andThen_ok,bE]
  ·intro t' z hz
   by_cases lQ:t'=s
   ·subst lQ
    simp only[ji,Rt,cond_true,I.injEq]at hz
    subst hz
    exact⟨_,c1,.ai _ _ _ (aK.fi (fun o _=>hK o (by simp)) hc),by simp⟩
   ·have hb:Gx s t'=E9:=by
     cases hb:Gx s t' with
     |false=>rfl
     |true=>exact absurd (Gd hb).symm lQ
    simp only[ji,hb,cond_false]at hz
    refine e' t' z ?_
    simp only[z8,hl,ji,hb,cond_false]
    exact hz
end
section
variable {P:Program}{C C0:aK}{ω:Nat→Option Loc}{w w' w0:World}{hp:qh}{env:Env}{a:Act}{o:Oper}{tmps:Array Value}{d:Loc}
def kh (w:World)(r:Nat)(x:Obj):World:={ w with heap:=w.heap.setIfInBounds r x }
theorem FL {r x}(h:r<w.heap.size):(kh w r x).heap[r]?=I x:=by
 show(w.heap.setIfInBounds r x)[r]?=_
 rw[Array.getElem?_setIfInBounds_self_of_lt h]
theorem Dw {r x}(h:r<w.heap.size)(hx:∀c t fr,x=.cells c t fr→fr=(0,0)):nj w (kh w r x) r where
 size:=by simp[kh]
 other k hk:=by
  show(w.heap.setIfInBounds r x)[k]?=_
  rw[Array.getElem?_setIfInBounds_ne (Rn hk)]
 fz c t fr hc:=by
  rw[FL h]at hc
  exact hx c t fr (I.inj hc)
 os:=rfl
 output:=rfl
theorem xU {r x y}(h:w.heap[r]?=I y)(hy:∀c t f,y≠.cells c t f):(setObj r x).run P w=.ok () (kh w r x):=by
 cases y with
 |cells c t f=>exact absurd rfl (hy c t f)
 |_=>simp[setObj,Sem.run,kh,h]
theorem px {r y}(h:w.heap[r]?=I y)(hy:∀c t f,y≠.cells c t f):(getObj r).run P w=.ok y w:=by
 cases y with
 |cells c t f=>exact absurd rfl (hy c t f)
 |_=>simp[getObj,Sem.run,h]
theorem jci (m:az P C ω w0 C0 hp w)(e:ak C ω w w0.heap.size env a.tmps){x x' b pos s}(ho:o.op=.next x Ga)(h1:qt x=I x')(e1:qi env x'=I (.ptr b 0))(gG:hp[b]?=I (.iter s pos)):
  (pos<s.length→∀h',jr hp b (.iter s (pos+(qn s pos).2))=I h'→∃v w',(execOp a.eval o).run P w=.ok (.value v) w'∧zi P C0 w0 C a.tmps d env ⟨.aI [.bool Ga,.int .i64 pos,.int .i32 (qn s pos).1],E9,Es,h'⟩ v w') ∧
  (¬pos<s.length→∃v w',(execOp a.eval o).run P w=.ok (.value v) w'∧zi P C0 w0 C a.tmps d env ⟨.aI [.bool E9],E9,Es,hp⟩ v w'):=by
 obtain⟨r,hr,hq⟩:=(qv e.ct h1 e1).dw
 have gF:w.heap[r]?=I (.stringIter ⟨⟨s⟩⟩ pos):=m.box b _ r gG hr
 have bz:=(m.lt b r hr).1
 have c7:(⟨⟨s⟩⟩:ByteArray).size=s.length:=rfl
 constructor
 ·intro gI h' bJ
  obtain rfl:=Av bJ
  have hu:=Dw (w:=w) (r:=r) (x:=.stringIter ⟨⟨s⟩⟩ (pos+(qn s pos).2)) bz (by simp)
  refine⟨.tuple #[.bool Ga,goInt pos,.int .i32 (qn s pos).1],kh w r (.stringIter ⟨⟨s⟩⟩ (pos+(qn s pos).2)),?_,C,ω,aK.le_refl C,m.dW hu hr _ (fun _ _ _ _ _ h=>h) (FL bz),e.dI hu hr,?_,by simp⟩
  ·have eA:pos<(⟨⟨s⟩⟩:ByteArray).size:=gI
   have bJ:=xU (P:=P) (x:=.stringIter ⟨⟨s⟩⟩ (pos+(qn s pos).2)) gF (by simp)
   simp only[execOp,ho,hq,Instr.next,Sem.run_bind,px gF (by simp),Result.andThen_ok,eA,if_true]
   unfold qn at bJ ⊢
   simp only[Sem.run_bind,bJ,Result.andThen_ok,Sem.run_pure]
  ·refine .aI _ _ (.cons _ _ _ _ (.bool _) (.cons _ _ _ _ ?_ (.cons _ _ _ _ (.int _ _) .nil)))
   exact .int _ _
 ·intro gI
  have eA:¬pos<(⟨⟨s⟩⟩:ByteArray).size:=gI
  refine⟨.tuple #[.bool E9],w,?_,q3o m e (.aI _ _ (.cons _ _ _ _ (.bool _) .nil))⟩
  simp only[execOp,ho,hq,Instr.next,Sem.run_bind,px gF (by simp),Result.andThen_ok,eA,if_false,Sem.run_pure]
theorem QV {t:TypeId}{kd}(h:kH P t=I kd):(kd=.int∧∃k,P.underlying t=I (.int k))∨(kd=.str∧P.underlying t=I .string)∨(kd=.bool∧P.underlying t=I .bool):=by
 unfold kH at h
 split at h<;>first|cases h|skip
 ·exact .inl ⟨rfl,_,‹_›⟩
 ·exact .inr (.inl ⟨rfl,‹_›⟩)
 ·exact .inr (.inr ⟨rfl,‹_›⟩)
theorem qvh {t:TypeId}{td:TypeDesc}{kd x y u v b}(ht:P.underlying t=I td)(hk:kH P t=I kd)(hx:bT C x u)(hy:bT C y v)(h:lH kd x y=I b):Instr.sameNow td u v=I b∧(b=Ga→x=y∧u=v∧Instr.sameBits 10000 v u=Ga):=by
 rcases QV hk with⟨rfl,k,hu⟩|⟨rfl,hu⟩|⟨rfl,hu⟩<;>rw[hu]at ht<;>cases ht
 ·cases x<;>cases y<;>simp only[lH]at h<;>first|cases h|skip
  rename_i k1 n1 k2 n2
  have e1:=hx.bW
  have e2:=hy.bW
  subst e1;subst e2
  by_cases iq:k1=k2
  ·subst iq
   simp only[decide_true,cond_true,I.injEq]at h
   refine⟨by simp[Instr.sameNow,h],fun hb=>?_⟩
   subst hb
   have:n1=n2:=by simpa using h
   subst this
   exact⟨rfl,rfl,by simp[Instr.sameBits]⟩
  ·simp[iq]at h
 ·cases x<;>cases y<;>simp only[lH]at h<;>first|cases h|skip
  rename_i s1 s2
  have e1:=hx.cw
  have e2:=hy.cw
  subst e1;subst e2
  have FM:((⟨⟨s1⟩⟩:ByteArray) == ⟨⟨s2⟩⟩)=(s1 == s2):=by
   show(Array.mk s1 == Array.mk s2)=_
   simp
  refine⟨by simp only[Instr.sameNow,FM],fun hb=>?_⟩
  have py:s1=s2:=by simpa using hb
  subst py
  refine⟨rfl,rfl,?_⟩
  simp only[Instr.sameBits,FM]
  simp
 ·cases x<;>cases y<;>simp only[lH]at h<;>first|cases h|skip
  rename_i b1 b2
  have e1:=hx.dv
  have e2:=hy.dv
  subst e1;subst e2
  refine⟨by simp[Instr.sameNow],fun hb=>?_⟩
  have py:b1=b2:=by simpa using hb
  subst py
  exact⟨rfl,rfl,by simp[Instr.sameBits]⟩
theorem FN {t:TypeId}{td:TypeDesc}{kd k u}(ht:P.underlying t=I td)(hk:kH P t=I kd)(hx:bT C k u):∀ {es:List (AVal×AVal)} {ms:List MapEntry} {i:Nat} {r:Option (Nat×AVal)},cI C es ms→za kd k es i=I r →
  match r with
  |none=>Instr.findNow td u ms i=I Es
  |some (j,v)=>∃m,i≤j∧es[j-i]?=I (k,v)∧ms[j-i]?=I m∧m.key=u∧bT C v m.val∧Instr.findNow td u ms i=I (I (j,m.val))∧Instr.sameBits 10000 m.key u=Ga
 |_,_,i,r,.nil,h=>by
  simp only[za,I.injEq]at h
  subst h
  simp[Instr.findNow]
 |_,_,i,r,.cons k' v' es m ms h1 h2 h3,h=>by
  simp only[za]at h
  split at h
  ·rename_i he
   cases h
   obtain⟨q1,q2⟩:=qvh ht hk hx h1 he
   obtain⟨rfl,rfl,q3⟩:=q2 rfl
   exact⟨m,Gl _,by simp,by simp,rfl,h2,by simp[Instr.findNow,q1],q3⟩
  ·rename_i he
   obtain⟨q1,_⟩:=qvh ht hk hx h1 he
   have ih:=FN ht hk hx h3 h
   cases r with
   |none=>simp only[Instr.findNow,q1];exact ih
   |some jv=>
    obtain⟨j,v⟩:=jv
    obtain⟨m2,k1,k2,k3,k4,k5,k6,k7⟩:=ih
    refine⟨m2,by omega,?_,?_,k4,k5,by simp only[Instr.findNow,q1];exact k6,k7⟩
    ·rw[show j-i=(j-(i+1))+1 from by omega];simpa using k2
    ·rw[show j-i=(j-(i+1))+1 from by omega];simpa using k3
  ·cases h
theorem Dx {t:TypeId}{kd}(hk:kH P t=I kd)(e:Bool)(v:Value):(Instr.checkKey e 10000 t v).run P w=.ok () w:=by
 rcases QV hk with⟨_,k,hu⟩|⟨_,hu⟩|⟨_,hu⟩<;>(unfold Instr.checkKey;simp[run_underlying hu])
theorem FO {t:TypeId}{td:TypeDesc}{u ms r}(ht:P.underlying t=I td)(h:Instr.findNow td u ms 0=I r):(Instr.findKey t u ms).run P w=.ok r w:=by
 simp[Instr.findKey,run_underlying ht,h]
theorem QW {t:TypeId}{kd}(hk:kH P t=I kd):∃td,P.underlying t=I td:=by
 rcases QV hk with⟨_,k,hu⟩|⟨_,hu⟩|⟨_,hu⟩<;>exact⟨_,hu⟩
theorem QX (m:az P C ω w0 C0 hp w)(e:ak C ω w w0.heap.size env a.tmps){t kt el:TypeId}{x y ok x' y' kd zv mv kv r}(ho:o.op=.lookup t x y ok)(ht:P.underlying t=I (.map kt el))(iI:kH P kt=I kd)(hz:Qc P el=I zv)
  (h1:qt x=I x') (h2:qt y=I y') (e1:qi env x'=I mv) (e2:qi env y'=I kv)
  (hv:(mv=.b8∧r=Es)∨∃b es,mv=.map b∧hp[b]?=I (.map es)∧za kd kv es 0=I r):
  Val P C a o w (match r with
   |some (_,v)=>bif ok then .aI [v,.bool Ga]else v
   |none=>bif ok then .aI [zv,.bool E9]else zv):=by
 have ik:=qv e.ct h2 e2
 have uS:=qv e.ct h1 e1
 obtain⟨td,qV⟩:=QW iI
 obtain⟨FP,lu,nh⟩:∃v,(∀w,(zeroValue el).run P w=.ok v w)∧bT C zv v:=by
  unfold Qc at hz
  split at hz
  ·rename_i i hi
   split at hz
   ·rename_i v hv
    exact⟨v,fun w=>by simp[zeroValue,typeInfo,hi,hv],qr3 C hz⟩
   ·cases hz
  ·cases hz
 have fin:∀ {ms:List MapEntry} {rv:Option (Nat×Value)},(a.eval x=.map Es∧ms=[]∨∃q clock,a.eval x=.map (I q)∧w.heap[q]?=I (.map ⟨ms⟩ clock))→Instr.findNow td (a.eval y) ms 0=I rv →
   (execOp a.eval o).run P w=.ok (.value (if ok then .tuple #[(match rv with|some (_,v)=>v|none=>FP),.bool rv.isSome]else(match rv with|some (_,v)=>v|none=>FP))) w:=by
  intro ms rv hm hf
  have uT:=FO (w:=w) qV hf
  rcases hm with⟨hm,rfl⟩|⟨q,clock,hm,hq⟩
  ·cases rv<;>simp[execOp,ho,Instr.lookup,run_underlying ht,hm,Dx iI,uT,lu]
  ·cases rv<;>simp[execOp,ho,Instr.lookup,run_underlying ht,hm,px hq (by simp),Dx iI,uT,lu]
 rcases hv with⟨rfl,rfl⟩|⟨b,es,rfl,hb,hfe⟩
 ·generalize mJ:a.eval x=mx at uS
  cases uS
  refine⟨_,fin (ms:=[]) (rv:=none) (.inl ⟨mJ,rfl⟩) (by simp[Instr.findNow]),?_⟩
  cases ok with
  |true=>exact .aI _ _ (.cons _ _ _ _ nh (.cons _ _ _ _ (.bool _) .nil))
  |false=>exact nh
 ·generalize mJ:a.eval x=mx at uS
  cases uS with
  |map _ q oL=>
   obtain⟨cj,clock,g1,g2⟩:=m.box b _ q hb oL
   have hf:=FN qV iI ik g2 hfe
   cases r with
   |none=>
    refine⟨_,fin (ms:=cj.toList) (rv:=none) (.inr ⟨q,clock,mJ,g1⟩) hf,?_⟩
    cases ok with
    |true=>exact .aI _ _ (.cons _ _ _ _ nh (.cons _ _ _ _ (.bool _) .nil))
    |false=>exact nh
   |some jv=>
    obtain⟨j,v⟩:=jv
    obtain⟨me,_,_,_,_,hrv,hfn,_⟩:=hf
    refine⟨_,fin (ms:=cj.toList) (rv:=I (j,me.val)) (.inr ⟨q,clock,mJ,g1⟩) hfn,?_⟩
    cases ok with
    |true=>exact .aI _ _ (.cons _ _ _ _ hrv (.cons _ _ _ _ (.bool _) .nil))
    |false=>exact hrv
theorem cI.iO {k v:AVal}:∀ {es:List (AVal×AVal)} {ms:List MapEntry} {j:Nat} {m:MapEntry},cI C es ms→bT C v m.val→(∀k',(es[j]?).map (·.1)=I k'→bT C k' m.key)→cI C (qB es j v) (ms.set j m)
 |_,_,j,m,.nil,_,_=>by simp[qB];exact .nil
 |_,_,0,m,.cons k' v' es m' ms h1 h2 h3,hv,hk=>by
  simp only[qB,List.set_cons_zero]
  exact .cons _ _ _ _ _ (hk k' (by simp)) hv h3
 |_,_,j+1,m,.cons k' v' es m' ms h1 h2 h3,hv,hk=>by
  simp only[qB,List.set_cons_succ]
  exact .cons _ _ _ _ _ h1 h2 (cI.iO (k:=k) h3 hv (fun k' h=>hk k' (by simpa using h)))
theorem cI.push {k v m es ms}(h:cI C es ms)(hk:bT C k m.key)(hv:bT C v m.val):cI C (es++[(k,v)]) (ms++[m]):=by
 induction h with
 |nil=>exact .cons _ _ _ _ _ hk hv .nil
 |cons k' v' es m' ms h1 h2 _ ih=>exact .cons _ _ _ _ _ h1 h2 ih
theorem qoa (m:az P C ω w0 C0 hp w)(e:ak C ω w w0.heap.size env a.tmps){t kt el:TypeId}{x y z x' y' z' kd kv v b es h'}(ho:o.op=.mapUpdate t x y z∨o.op=.insert t x y z)(ht:P.underlying t=I (.map kt el))(iI:kH P kt=I kd)
  (h1:qt x=I x') (h2:qt y=I y') (h3:qt z=I z') (e1:qi env x'=I (.map b)) (e2:qi env y'=I kv) (e3:qi env z'=I v) (hb:hp[b]?=I (.map es))
  (hv:(∃i u,za kd kv es 0=I (I (i,u))∧jr hp b (.map (qB es i v))=I h')∨(za kd kv es 0=I Es∧jr hp b (.map (es++[(kv,v)]))=I h')):
  ∃w',(execOp a.eval o).run P w=.ok .skip w'∧zi P C0 w0 C a.tmps d env ⟨.undef,E9,Es,h'⟩ undef w':=by
 have ik:=qv e.ct h2 e2
 have hvr:=qv e.ct h3 e3
 have uS:=qv e.ct h1 e1
 obtain⟨td,qV⟩:=QW iI
 generalize mJ:a.eval x=mx at uS
 cases uS with
 |map _ q oL=>
  obtain⟨cj,clock,g1,g2⟩:=m.box b _ q hb oL
  have bz:=(m.lt b q oL).1
  have done:∀(AB:List (AVal×AVal)) (qW:Array MapEntry) (kP:Nat),cI C AB qW.toList→jr hp b (.map AB)=I h' →
    (execOp a.eval o).run P w=.ok .skip (kh w q (.map qW kP))→∃w',(execOp a.eval o).run P w=.ok .skip w'∧zi P C0 w0 C a.tmps d env ⟨.undef,E9,Es,h'⟩ undef w':=by
   intro AB qW kP vZ bJ bE
   obtain rfl:=Av bJ
   have hu:=Dw (w:=w) (r:=q) (x:=.map qW kP) bz (by simp)
   exact⟨_,bE,C,ω,aK.le_refl C,m.dW hu oL _ (fun _ _ _ _ _ h=>h) ⟨qW,kP,FL bz,vZ⟩,e.dI hu oL,.undef,by simp⟩
  rcases hv with⟨i,u,hf,bJ⟩|⟨hf,bJ⟩
  ·obtain⟨me,_,k1,k2,k3,k4,k5,k6⟩:=FN qV iI ik g2 hf
   have uT:=FO (w:=w) qV k5
   simp only[Nat.sub_zero]at k1 k2
   have QY:cj[i]?=I me:=by simpa using k2
   have hlen:i<cj.size:=(Gv.1 QY).1
   refine done (qB es i v) (cj.modify i fun e=>{ e with key:=a.eval y,val:=a.eval z }) clock ?_ bJ ?_
   ·have:(cj.modify i fun e=>{ e with key:=a.eval y,val:=a.eval z }).toList=cj.toList.set i { me with key:=a.eval y,val:=a.eval z }:=by
     apply Rm
     intro j
     rw[Gm,Array.getElem?_modify,Xy]
     by_cases qH:i=j
     ·subst qH
      have hgi:=(Gv.1 QY).2
      simp[hlen,hgi]
     ·simp[qH]
    rw[this]
    refine cI.iO (k:=kv) g2 hvr (fun k' eQ=>?_)
    rw[k1]at eQ
    cases eQ
    exact ik
   ·have ga:=xU (P:=P) (x:=.map (cj.modify i fun e=>{ e with key:=a.eval y,val:=a.eval z }) clock) g1 (by simp)
    have FQ:∀w:World,(Instr.keyThatStays (((cj[i]?).map (·.key)).getD (a.eval y)) (a.eval y)).run P w=.ok (a.eval y) w:=by
     intro w
     simp[Instr.keyThatStays,QY,k6]
    rcases ho with ho|ho<;>simp only[execOp,ho,Instr.mapUpdate,Sem.run_bind,run_underlying ht,Result.andThen_ok,mJ,px g1 (by simp),Dx iI,uT,FQ,ga,Sem.run_pure]
  ·have Qn:=FN qV iI ik g2 hf
   have uT:=FO (w:=w) qV Qn
   refine done (es++[(kv,v)]) (cj.push { key:=a.eval y,val:=a.eval z,born:=clock }) (clock+1) ?_ bJ ?_
   ·rw[Array.toList_push]
    exact g2.push ik hvr
   ·have ga:=xU (P:=P) (x:=.map (cj.push { key:=a.eval y,val:=a.eval z,born:=clock }) (clock+1)) g1 (by simp)
    rcases ho with ho|ho<;>simp only[execOp,ho,Instr.mapUpdate,Sem.run_bind,run_underlying ht,Result.andThen_ok,mJ,px g1 (by simp),Dx iI,uT,ga,Sem.run_pure]
end
section
variable {P:Program}{C C0:aK}{ω:Nat→Option Loc}{w w' w0:World}{hp:qh}{env:Env}{a:Act}{o:Oper}{tmps:Array Value}{d:Loc}
theorem qz5 {n sz len cap:Nat}{base:Option Addr}{cs:List Value}(hl:cs.length=n*sz)(h:∀ad,base=I ad→∀j v,cs[j]?=I v→w.cell? (ad.add j)=I v)(hn:base=Es→n=0):
  (Builtin.firstCells sz n (.slice base len cap)).run P w=.ok cs.toArray w:=by
 cases base with
 |none=>
  have:cs=[]:=by
   have:=hn rfl
   subst this
   exact List.length_eq_zero_iff.1 (by simpa using hl)
  subst this
  exact run_firstCells_none _ _ _ _ _
 |some ad=>exact run_firstCells_some w _ _ _ _ _ cs hl (h ad rfl)
theorem jlc (m:az P C ω w0 C0 hp w)(e:ak C ω w w0.heap.size env a.tmps){c:Call}{t:TypeId}{ts:List TypeId}{el:TypeId}{x y x' y' sz b q len n vy us cs eE h'}
  (ho:o.op=.call c) (ea:c.callee=.builtin .copy) (eo:c.args.toList=[x,y]) (eP:c.argTypes.toList=t::ts) (ht:P.underlying t=I (.slice el)) (hn:jm P el=I sz)
  (h1:qt x=I x') (h2:qt y=I y') (e1:qi env x'=I (.ms b q len)) (e2:qi env y'=I vy) (lx:jt hp b=I cs) (cW:zZ sz len vy=I (n,us)) (cr:jo cs q us=I eE) (Qr:us.length=n*sz) (bJ:jr hp b (.cells eE)=I h'):
  ∃u w',(execOp a.eval o).run P w=.ok (.value u) w'∧zi P C0 w0 C a.tmps d env ⟨.int .i64 n,E9,Es,h'⟩ u w':=by
 obtain⟨r,cap,hr,hle,hq⟩:=(qv e.ct h1 e1).eX
 have ry:=qv e.ct h2 e2
 unfold jo at cr
 cases hb:(St (q+us.length) cs.length&&us.all ql)with
 |false=>simp[hb]at cr
 |true=>
  simp only[hb,cond_true,I.injEq]at cr
  simp only[Gu]at hb
  subst cr
  -- the source
  obtain⟨news,base,sl,sc,hy,db,hcells,QZ,qM⟩:∃news base sl sc,a.eval y=.slice base sl sc∧aW C us news∧(∀ad,base=I ad→∀j v,news[j]?=I v→w.cell? (ad.add j)=I v)∧Nat.min sl len=n∧(base=Es→n=0):=by
   unfold zZ at cW
   split at cW
   ·rename_i nn sy ys
    cases hk:(Gx sz sy||ys.isEmpty)with
    |false=>simp[hk]at cW
    |true=>
     simp only[hk,cond_true,I.injEq,Prod.mk.injEq]at cW
     obtain⟨rfl,rfl⟩:=cW
     generalize a.eval y=vv at ry
     cases ry with
     |jI=>exact⟨[],Es,0,0,rfl,by simpa using aH.nil,by simp,by simp[Nat.min_def],by simp⟩
     |jJ _ ad _=>exact⟨[],I ad,0,0,rfl,by simpa using aH.nil,by simp,by simp,by simp⟩
     |list _ _ r' o' kN hl dl=>
      have hc:cy C r' ((ys.take len).flatMap AVal.flat) o':=bA.cells (bA.take len dl)
      obtain⟨vs,k1,k2⟩:=hc.vals
      refine⟨vs,I ⟨r',o',Es⟩,ys.length,kN,rfl,k1,?_,rfl,by simp⟩
      intro ad had j v hj
      cases had
      rw[add_lit]
      exact m.know _ _ _ (k2 j v hj)
   ·cases cW
  have dc:=Ao db (by simpa using hb.2)
  obtain⟨vs,te,hg,cG,m',e'⟩:=q40 m e (vW lx) hr db dc (Jj hb.1)
  obtain rfl:=Av bJ
  have hfc:=qz5 (P:=P) (w:=w) (n:=n) (sz:=sz) (len:=sl) (cap:=sc) (base:=base) (cs:=news) (by rw[db.length,Qr]) hcells qM
  have FR:=run_storeCells_at (P:=P) r q te news 0 vs w hg (by simpa using cG) dc
  simp only[T7]at FR
  have bE:(Builtin.copy_ c.argTypes o.type (c.args.map a.eval)).run P w=.ok (goInt n) (w.setRow r (vs.toList.take q++news++vs.toList.drop (q+news.length)).toArray):=by
   have ha:c.args.map a.eval=#[a.eval x,a.eval y]:=by
    apply Gy;simp[eo]
   have hat:c.argTypes[0]?=I t:=by rw[←Gm,eP];rfl
   rw[ha]
   simp only[Builtin.copy_,hat,Gp,L9,Nk,Sem.run_bind,run_underlying ht,Result.andThen_ok,hq,hy,Builtin.lenOf,Sem.run_pure,QZ,yl hn,hfc,FR]
  refine⟨goInt n,_,?_,C,ω,aK.le_refl C,m',e',?_,by simp⟩
  ·have ha:Array.map a.eval c.args=#[a.eval x,a.eval y]:=by
    apply Gy;simp[eo]
   rw[ha]at bE
   simp[execOp,ho,resolve,ea,ha,invoke,builtin,bE]
  ·exact .int _ _
theorem cI.erase:∀ {es:List (AVal×AVal)} {ms:List MapEntry} (j:Nat),cI C es ms→cI C (es.eraseIdx j) (ms.eraseIdx j)
 |_,_,j,.nil=>by simpa using cI.nil
 |_,_,0,.cons k' v' es m' ms h1 h2 h3=>by simpa using h3
 |_,_,j+1,.cons k' v' es m' ms h1 h2 h3=>by simpa using .cons _ _ _ _ _ h1 h2 (cI.erase j h3)
theorem ja9 (m:az P C ω w0 C0 hp w)(e:ak C ω w w0.heap.size env a.tmps){c}{t kt el:TypeId}{ts x y x' y' kd kv b es h' r}
  (ho:o.op=.call c) (ea:c.callee=.builtin .delete) (eo:c.args.toList=[x,y]) (eP:c.argTypes.toList=t::ts) (ht:P.underlying t=I (.map kt el)) (iI:kH P kt=I kd)
  (h1:qt x=I x') (h2:qt y=I y') (e1:qi env x'=I (.map b)) (e2:qi env y'=I kv) (hb:hp[b]?=I (.map es))
  (hf:za kd kv es 0=I r) (bJ:jr hp b (.map (q3r es r))=I h'):
  ∃u w',(execOp a.eval o).run P w=.ok (.value u) w'∧zi P C0 w0 C a.tmps d env ⟨.aI [],E9,Es,h'⟩ u w':=by
 have ik:=qv e.ct h2 e2
 have uS:=qv e.ct h1 e1
 obtain⟨td,qV⟩:=QW iI
 have ha:Array.map a.eval c.args=#[a.eval x,a.eval y]:=by
  apply Gy;simp[eo]
 have hat:c.argTypes[0]?=I t:=by rw[←Gm,eP];rfl
 generalize mJ:a.eval x=mx at uS
 cases uS with
 |map _ q oL=>
  obtain⟨cj,clock,g1,g2⟩:=m.box b _ q hb oL
  have bz:=(m.lt b q oL).1
  have done:∀(AB:List (AVal×AVal)) (qW:Array MapEntry),cI C AB qW.toList→jr hp b (.map AB)=I h' →
    (Builtin.delete_ c.argTypes o.type #[.map (I q),a.eval y]).run P w=.ok (.tuple #[]) (kh w q (.map qW clock))→∃u w',(execOp a.eval o).run P w=.ok (.value u) w'∧zi P C0 w0 C a.tmps d env ⟨.aI [],E9,Es,h'⟩ u w':=by
   intro AB qW vZ bJ bE
   obtain rfl:=Av bJ
   have hu:=Dw (w:=w) (r:=q) (x:=.map qW clock) bz (by simp)
   refine⟨.tuple #[],_,?_,C,ω,aK.le_refl C,m.dW hu oL _ (fun _ _ _ _ _ h=>h) ⟨qW,clock,FL bz,vZ⟩,e.dI hu oL,.aI _ _ .nil,by simp⟩
   simp[execOp,ho,resolve,ea,ha,mJ,invoke,builtin,bE]
  have hfn:=FN qV iI ik g2 hf
  cases r with
  |none=>
   have uT:=FO (w:=w) qV hfn
   refine done es cj g2 bJ ?_
   have ga:=xU (P:=P) (x:=.map cj clock) g1 (by simp)
   simp only[Builtin.delete_,hat,Gp,L9,Nk,Sem.run_bind,run_underlying ht,Result.andThen_ok,px g1 (by simp),Dx iI,uT,ga,Sem.run_pure]
  |some jv=>
   obtain⟨j,v⟩:=jv
   obtain⟨me,_,k1,k2,k3,k4,k5,k6⟩:=hfn
   have uT:=FO (w:=w) qV k5
   refine done (es.eraseIdx j) (cj.eraseIdxIfInBounds j) ?_ bJ ?_
   ·have:(cj.eraseIdxIfInBounds j).toList=cj.toList.eraseIdx j:=by simp
    rw[this];exact cI.erase j g2
   ·have ga:=xU (P:=P) (x:=.map (cj.eraseIdxIfInBounds j) clock) g1 (by simp)
    simp only[Builtin.delete_,hat,Gp,L9,Nk,Sem.run_bind,run_underlying ht,Result.andThen_ok,px g1 (by simp),Dx iI,uT,ga,Sem.run_pure]
end
section
variable {P:Program}{p:jz}{xc:XC}{C C0:aK}{ω:Nat→Option Loc}{w w0:World}{hp:qh}{env:Env}{a:Act}{o:Oper}{d:Loc}{h:qk}{md:ep}{r h0:Nat}{dst:Option Nat}{al:Option (List Nat)}{cP:cU}{res:bm}
def yd (P:Program)(C C0:aK)(w0:World)(a:Act)(d:Loc)(env:Env)(o:Oper)(w:World)(res:bm):Prop:=
 (∃v w',(execOp a.eval o).run P w=.ok (.value v) w'∧zi P C0 w0 C a.tmps d env res v w') ∨
 (∃w',(execOp a.eval o).run P w=.ok .skip w'∧zi P C0 w0 C a.tmps d env res undef w') ∨
 (∃f args,(execOp a.eval o).run P w=.ok (.enter f args) w∧CallsIn Fence.wide 0 P f args w fun e w'=>∃v,e=.returned v∧zi P C0 w0 C a.tmps d env res v w') ∨
 (∃l f tmps assign body,(execOp a.eval o).run P w=.ok (.round l f tmps assign body) w∧RoundIn Fence.wide 0 P l f tmps assign body w fun e w'=>∃v,e=.returned v∧zi P C0 w0 C a.tmps d env res v w')
theorem jh (m:az P C ω w0 C0 hp w)(e:ak C ω w w0.heap.size env a.tmps){x}(hv:Val P C a o w x):yd P C C0 w0 a d env o w ⟨x,E9,Es,hp⟩:=by
 obtain⟨v,h1,h2⟩:=hv
 exact .inl ⟨v,w,h1,q3o m e h2⟩
theorem qy {x}(hs:val hp x=I res):res=⟨x,E9,Es,hp⟩:=by simpa[val]using hs.symm
theorem uU {x}(hs:gB hp x=I res):∃v,x=I v∧res=⟨v,E9,Es,hp⟩:=by
 cases x with
 |none=>simp[gB]at hs
 |some v=>exact⟨v,rfl,by simpa[gB]using hs.symm⟩
theorem KJ (m:az P C ω w0 C0 hp w)(e:ak C ω w w0.heap.size env a.tmps){x}(ho:o.op=.move x∨o.op=.assign x){y}(hc:qt x=I y)(hs:qo env hp (.move y)=I res):yd P C C0 w0 a d env o w res:=by
 simp only[qo]at hs
 obtain⟨v,hv,rfl⟩:=uU hs
 exact jh m e (jiw e.ct ho hc hv)
theorem q17 (m:az P C ω w0 C0 hp w)(e:ak C ω w w0.heap.size env a.tmps){s}(ho:o.op=.move (.tmp s)∨o.op=.assign (.tmp s))(hs:qo env hp (.take s)=I res):yd P C C0 w0 a d env o w res:=by
 simp only[qo]at hs
 split at hs
 ·rename_i v ow hl
  cases hs
  exact .inl (jgn m e ho hl)
 ·cases hs
theorem jja (m:az P C ω w0 C0 hp w)(e:ak C ω w w0.heap.size env a.tmps){x}(ho:o.op=.move x)(hc:cV P h md r dst (.move x)=I cP)(hs:qf p xc h0 al env hp cP=I res):yd P C C0 w0 a d env o w res:=by
 simp only[cV]at hc
 split at hc
 ·rename_i s ht
  cases hc
  unfold q7m at ht
  split at ht
  ·split at ht
   ·cases ht;exact q17 m e (.inl ho) hs
   ·cases ht
  ·cases ht
 ·obtain⟨y,hy,rfl⟩:=En.1 hc
  exact KJ m e (.inl ho) hy hs
theorem q9w (m:az P C ω w0 C0 hp w)(e:ak C ω w w0.heap.size env a.tmps){x}(ho:o.op=.assign x)(hc:cV P h md r dst (.assign x)=I cP)(hs:qf p xc h0 al env hp cP=I res):yd P C C0 w0 a d env o w res:=by
 cases x with
 |tmp s=>simp only[cV]at hc;cases hc;exact q17 m e (.inr ho) hs
 |const v=>simp only[cV]at hc;obtain⟨y,hy,rfl⟩:=En.1 hc;exact KJ m e (.inr ho) hy hs
 |func v=>simp only[cV]at hc;obtain⟨y,hy,rfl⟩:=En.1 hc;exact KJ m e (.inr ho) hy hs
 |global v=>simp only[cV]at hc;obtain⟨y,hy,rfl⟩:=En.1 hc;exact KJ m e (.inr ho) hy hs
theorem jkx (m:az P C ω w0 C0 hp w)(e:ak C ω w w0.heap.size env a.tmps){c x y}(ho:o.op=.pick c x y)(hc:cV P h md r dst (.pick c x y)=I cP)(hs:qf p xc h0 al env hp cP=I res):yd P C C0 w0 a d env o w res:=by
 simp only[cV]at hc
 split at hc
 ·rename_i c' x' y' h1 h2 h3
  cases hc
  simp only[qf,qo]at hs
  split at hs
  ·rename_i b e1
   split at hs
   ·rename_i u v e2 e3
    obtain rfl:=qy hs
    exact jh m e (jks e.ct ho h1 h2 h3 e1 e2 e3)
   ·cases hs
  ·cases hs
 ·cases hc
theorem q4j (m:az P C ω w0 C0 hp w)(e:ak C ω w w0.heap.size env a.tmps){x}(ho:o.op=.nilCheck x)(hc:cV P h md r dst (.nilCheck x)=I cP)(hs:qf p xc h0 al env hp cP=I res):yd P C C0 w0 a d env o w res:=by
 simp only[cV]at hc
 obtain⟨y,hy,rfl⟩:=En.1 hc
 simp only[qf,qo]at hs
 split at hs
 ·rename_i b q hv;obtain rfl:=qy hs;exact jh m e (qoz e.ct ho hy hv (.inl ⟨_,_,rfl⟩))
 ·rename_i z hv;obtain rfl:=qy hs;exact jh m e (qoz e.ct ho hy hv (.inr ⟨_,rfl⟩))
 ·rename_i f u v hv
  obtain rfl:=qy hs
  have hr:=qv e.ct hy hv
  refine jh m e ⟨a.eval x,?_,hr⟩
  generalize hx:a.eval x=ev at hr
  cases hr with
  |fn f f' u v as bs hf ha hb=>
   simp only[fD]at hf
   subst hf
   simp[execOp,ho,hx]
 ·cases hs
theorem jxg (m:az P C ω w0 C0 hp w)(e:ak C ω w w0.heap.size env a.tmps){op}{t:TypeId}{x}(ho:o.op=.unOp op t x)(hc:cV P h md r dst (.unOp op t x)=I cP)(hs:qf p xc h0 al env hp cP=I res):yd P C C0 w0 a d env o w res:=by
 simp only[cV]at hc
 obtain⟨y,hy,rfl⟩:=En.1 hc
 simp only[qf,qo]at hs
 split at hs
 ·rename_i v hv
  obtain⟨u,hu,rfl⟩:=uU hs
  exact jh m e (jrf e.ct ho hy hv hu)
 ·cases hs
theorem jhq (m:az P C ω w0 C0 hp w)(e:ak C ω w w0.heap.size env a.tmps){s t:TypeId}{x}(ho:o.op=.convert s t x)(hc:cV P h md r dst (.convert s t x)=I cP)(hs:qf p xc h0 al env hp cP=I res):yd P C C0 w0 a d env o w res:=by
 simp only[cV]at hc
 split at hc
 ·rename_i k0 k u1 u2
  obtain⟨y,hy,rfl⟩:=En.1 hc
  simp only[qf,qo]at hs
  split at hs
  ·rename_i k1 n hv
   obtain rfl:=qy hs
   exact jh m e (jhn e.ct ho u1 u2 hy hv)
  ·cases hs
 ·rename_i u1 u2
  obtain⟨y,hy,rfl⟩:=En.1 hc
  simp only[qf,qo]at hs
  split at hs
  ·rename_i l hv
   obtain rfl:=qy hs
   exact jh m e (q61 e.ct ho u1 u2 hy hv ⟨_,rfl⟩)
  ·rename_i k1 n hv
   obtain rfl:=qy hs
   exact jh m e (q19 e.ct ho u1 u2 hy hv)
  ·cases hs
 ·rename_i k0 u1 u2
  obtain⟨y,hy,rfl⟩:=En.1 hc
  simp only[qf,qo]at hs
  split at hs
  ·rename_i l hv
   obtain rfl:=qy hs
   exact jh m e (q22 e.ct ho u1 u2 hy hv ⟨_,rfl⟩)
  ·rename_i k1 n hv
   obtain rfl:=qy hs
   exact jh m e (q6k e.ct ho u1 u2 hy hv)
  ·cases hs
 ·cases hc
theorem q7h {ag n y}(hs:qo env hp (.fq ag n y)=I res):yi h0 al env hp (.load ag n y)=I res:=by
 simp only[qo]at hs
 simp only[yi]
 split at hs
 ·rename_i v hv
  rw[hv];exact hs
 ·cases hs
theorem qzy {g}:∀ {l:List (String×List Int)} {cs:List Int},Ff P g l=I cs→∃n,(n,cs)∈l∧P.globalNamed n=I g
 | [],_,h=>by simp[Ff]at h
 |(n,ds)::l,cs,h=>by
  simp only[Ff]at h
  split at h
  ·rename_i hn
   cases h
   exact⟨n,S6 ..,by simpa using hn⟩
  ·obtain⟨n',h1,h2⟩:=qzy h
   exact⟨n',R0 _ h1,h2⟩
theorem jdp {ns:List Int}:aW C (ns.map (AVal.int .i64)) (ns.map (Value.int .i64)):=by
 induction ns with
 |nil=>exact .nil
 |cons n ns ih=>exact .cons _ _ _ _ (.int _ _) ih
theorem jcl (m:az P C ω w0 C0 hp w)(e:ak C ω w w0.heap.size env a.tmps){t:TypeId}{g}(ho:o.op=.load t (.global g))(hc:cV P h md r dst (.load t (.global g))=I cP)(hs:qf p xc h0 al env hp cP=I res):yd P C C0 w0 a d env o w res:=by
 have hc:Kl P t g=I cP:=hc
 unfold Kl at hc
 split at hc
 ·rename_i cs n hf hg hn
  split at hc
  ·rename_i hl
   cases hc
   have hl:cs.length=n:=by simpa using hl
   simp only[qf,qo,qi]at hs
   obtain⟨u,hu,rfl⟩:=uU hs
   cases hu
   obtain⟨nm,du,KK⟩:=qzy hf
   have ht:=(m.tabs g (.inr (.inr ⟨_,du,KK⟩))).2.2.2 _ du KK
   have eg:∀j v,(cs.map (Value.int .i64))[j]?=I v→w.cell? ⟨g,0+j,Es⟩=I v:=by
    intro j v hj
    rw[Jd,En]at hj
    obtain⟨i,hi,rfl⟩:=hj
    rw[Xx]
    exact ht j i hi
   have FT:=FB (P:=P) (w:=w) hg hn (vs:=cs.map (Value.int .i64)) (by simpa using hl) eg
   refine jh m e ⟨.agg ⟨cs.map (Value.int .i64)⟩,?_,.agg _ _ jdp⟩
   have eM:a.eval (.global g)=.pointer (I ⟨g,0,Es⟩):=rfl
   simp[execOp,ho,Instr.loadAt,eM,Instr.sureAddr,FT]
  ·cases hc
 ·cases hc
theorem jlo (m:az P C ω w0 C0 hp w)(e:ak C ω w w0.heap.size env a.tmps){t:TypeId}{x}(ho:o.op=.load t x)(hc:cV P h md r dst (.load t x)=I cP)(hs:qf p xc h0 al env hp cP=I res):yd P C C0 w0 a d env o w res:=by
 have key:∀ {ag:Bool} {n:Nat} {y:js},ym P t=I ag→jm P t=I n→(ag=E9→n=1)→qt x=I y→yi h0 al env hp (.load ag n y)=I res→yd P C C0 w0 a d env o w res:=by
  intro ag n y hg hn FD hy hs
  simp only[yi]at hs
  split at hs
  ·rename_i b q hv
   cases hk:j9 h0 al b with
   |false=>simp[hk]at hs
   |true=>
    simp only[hk,cond_true]at hs
    split at hs
    ·rename_i cs hcs
     split at hs
     ·rename_i us gV
      cases ag with
      |true=>
       simp only[cond_true]at hs
       obtain rfl:=qy hs
       exact jh m e (QG m e.ct ho hg hn FD hy hv (.inl ⟨b,q,cs,us,rfl,hcs,gV,.inl ⟨rfl,rfl⟩⟩))
      |false=>
       simp only[cond_false]at hs
       split at hs
       ·obtain rfl:=qy hs
        exact jh m e (QG m e.ct ho hg hn FD hy hv (.inl ⟨b,q,cs,_,rfl,hcs,gV,.inr ⟨rfl,rfl⟩⟩))
       ·cases hs
     ·cases hs
    ·cases hs
  ·rename_i z hv
   cases hk:(Bool.xor ag z.isAgg||!(Gx z.flat.length n))with
   |true=>simp[hk]at hs
   |false=>
    simp only[hk,cond_false]at hs
    obtain rfl:=qy hs
    simp only[Bool.or_eq_false_iff,Bool.not_eq_false']at hk
    exact jh m e (QG m e.ct ho hg hn FD hy hv (.inr ⟨rfl,hk.1,Gd hk.2⟩))
  ·rename_i b bN q hv
   cases hk:uG h0 al b with
   |false=>simp[hk]at hs
   |true=>
    simp only[hk,cond_true]at hs
    split at hs
    ·rename_i sz dG xs gG
     cases dx:(Gx bN dG&&St (q+n) (xs.flatMap AVal.flat).length)with
     |false=>rw[dx]at hs;cases hs
     |true=>
      rw[dx]at hs
      simp only[cond_true]at hs
      simp only[Gu]at dx
      obtain rfl:=Gd dx.1
      have hl:=Jj dx.2
      cases ag with
      |true=>
       simp only[cond_true]at hs
       obtain rfl:=qy hs
       exact jh m e (qz0 m e.ct ho hg hn hy hv gG hl (.inl ⟨rfl,rfl⟩))
      |false=>
       simp only[cond_false]at hs
       split at hs
       ·rename_i z hz
        obtain rfl:=qy hs
        exact jh m e (qz0 m e.ct ho hg hn hy hv gG hl (.inr ⟨rfl,hz⟩))
       ·cases hs
    ·cases hs
  ·cases hs
 by_cases hx:∃g,x=.global g
 ·obtain⟨g,rfl⟩:=hx
  exact jcl m e ho hc hs
 have hc:(match ym P t,jm P t,qt x with
  |some E9,I 1,I x=>if(dst.map (h.takes.contains ·)).getD E9 then I (cU.cA ((dst.bind fun d=>h.bV.find? fun y=>y.1 == d).map (·.2)) x)else I (bif (dst.map (h.vl.contains ·)).getD E9 then .fq E9 1 x else .load E9 1 x)
  |some Ga,I n,I x=>I (bif (dst.map (h.vl.contains ·)).getD E9 then .fq Ga n x else .load Ga n x)
  |_,_,_=>Es)=I cP:=by
  cases x with
  |global g=>exact absurd ⟨g,rfl⟩ hx
  |_=>exact hc
 split at hc
 ·rename_i y hg hn hy
  split at hc
  ·cases hc
   simp only[qf,qp]at hs
   split at hs
   ·rename_i b q hv
    generalize (j9 h0 al b&&uH _ q)=kk at hs
    cases kk with
    |false=>simp at hs
    |true=>
     simp only[cond_true]at hs
     split at hs
     ·rename_i cs hcs
      split at hs
      ·rename_i v ow hq
       split at hs
       ·rename_i h' bJ
        cases hs
        exact .inl (q21 m e ho hg hy hv hcs hq bJ)
       ·cases hs
      ·cases hs
     ·cases hs
   ·cases hs
  ·cases hc
   generalize (dst.map (h.vl.contains ·)).getD E9=bb at hs
   cases bb with
   |false=>exact key hg hn (fun _=>rfl) hy hs
   |true=>exact key hg hn (fun _=>rfl) hy (q7h hs)
 ·rename_i n y hg hn hy
  cases hc
  generalize (dst.map (h.vl.contains ·)).getD E9=bb at hs
  cases bb with
  |false=>exact key hg hn (by simp) hy hs
  |true=>exact key hg hn (by simp) hy (q7h hs)
 ·cases hc
theorem jd3 (m:az P C ω w0 C0 hp w)(e:ak C ω w w0.heap.size env a.tmps){t:TypeId}{x y}(ho:o.op=.store t x y)(np:cP.ic=Es)(hc:cV P h md r dst (.store t x y)=I cP)(hs:qf p xc h0 al env hp cP=I res):yd P C C0 w0 a d env o w res:=by
 simp only[cV]at hc
 split at hc
 ·rename_i n x' y' hn h1 h2
  cases lS:Km h x' with
  |some s=>rw[lS]at hc;simp only[I.injEq]at hc;subst hc;simp[cU.ic]at np
  |none=>
  rw[lS]at hc
  simp only[I.injEq]at hc
  subst hc
  simp only[qf,qp]at hs
  split at hs
  ·rename_i b q v e1 e2
   cases hk:j9 h0 al b with
   |false=>simp[hk]at hs
   |true=>
    simp only[hk,cond_true]at hs
    split at hs
    ·rename_i cs hcs
     split at hs
     ·rename_i s c5
      cases hb:(Gx n 1&&v.cS&&Yq q cs.length)with
      |false=>simp[hb]at hs
      |true=>
       simp only[hb,cond_true]at hs
       simp only[Gu]at hb
       obtain⟨⟨lv,lT⟩,FU⟩:=hb
       obtain rfl:=Gd lv
       split at hs
       ·rename_i h' bJ
        cases hs
        exact .inr (.inl (q3f m e ho hn h1 h2 e1 e2 hcs lT (X9.mp FU) c5 bJ))
       ·cases hs
     ·cases hb:Gx v.flat.length n with
      |false=>simp[hb]at hs
      |true=>
       simp only[hb,cond_true]at hs
       split at hs
       ·rename_i eE cr
        split at hs
        ·rename_i h' bJ
         obtain rfl:=qy hs
         exact .inr (.inl (jek m e ho hn h1 h2 e1 e2 hcs (Gd hb) cr bJ))
        ·cases hs
       ·cases hs
    ·cases hs
  ·cases hs
 ·cases hc
theorem je4 {P}{t:TypeId}{e:TypeId}(h:Qb P t=I e):∃sz,yr P t=I [.b9,.list Ga sz []]:=by
 unfold Qb at h
 split at h
 ·split at h
  ·split at h
   ·split at h
    ·rename_i sz h1 h2
     exact⟨_,h2⟩
    ·cases h
   ·cases h
  ·cases h
 ·cases h
theorem jch (m:az P C ω w0 C0 hp w)(e:ak C ω w w0.heap.size env a.tmps){t:TypeId}(ho:o.op=.alloc t)(hc:cV P h md r dst (.alloc t)=I cP)(hs:qf p xc h0 al env hp cP=I res):yd P C C0 w0 a d env o w res:=by
 simp only[cV]at hc
 split at hc
 ·rename_i e' he
  cases hc
  obtain⟨sz,hz⟩:=je4 he
  simp only[qf,qp]at hs
  split at hs
  ·rename_i h' hn
   obtain rfl:=qy hs
   exact .inl (jnx m e ho hz hn)
  ·cases hs
 generalize (dst.map (h.vl.contains ·)).getD E9=bb at hc
 cases bb with
 |true=>
  simp only[cond_true]at hc
  split at hc
  ·rename_i z hz
   cases hb:z.all ql with
   |false=>rw[hb]at hc;cases hc
   |true=>
    rw[hb]at hc
    simp only[cond_true,I.injEq]at hc
    subst hc
    simp only[qf,qo,I.injEq]at hs
    subst hs
    exact .inl (jbl m e ho hz)
  ·cases hc
 |false=>
 simp only[cond_false]at hc
 obtain⟨z,hz,rfl⟩:=En.1 hc
 simp only[qf,qp]at hs
 cases hb:z.all ql with
 |false=>simp[hb]at hs
 |true=>
  simp only[hb,cond_true]at hs
  split at hs
  ·rename_i h' hn
   obtain rfl:=qy hs
   exact .inl (jer m e ho hz (by simpa using hb) hn)
  ·cases hs
theorem jnt (m:az P C ω w0 C0 hp w)(e:ak C ω w w0.heap.size env a.tmps){t:TypeId}{x}(ho:o.op=.box t x)(hc:cV P h md r dst (.box t x)=I cP)(hs:qf p xc h0 al env hp cP=I res):yd P C C0 w0 a d env o w res:=by
 simp only[cV]at hc
 split at hc
 ·rename_i n x' hn h1
  cases hc
  generalize (dst.map (h.vl.contains ·)).getD E9=bb at hs
  cases bb with
  |true=>
   simp only[cond_true,qf,qo]at hs
   split at hs
   ·rename_i v hv
    cases hb:(Gx v.flat.length n&&v.flat.all ql)with
    |false=>simp[hb]at hs
    |true=>
     simp only[hb,cond_true]at hs
     simp only[Gu]at hb
     obtain rfl:=qy hs
     exact .inl (jke m e ho h1 hv hb.2)
   ·cases hs
  |false=>
   simp only[cond_false]at hs
   simp only[qf,qp]at hs
   split at hs
   ·rename_i v hv
    cases hb:(Gx v.flat.length n&&v.flat.all ql)with
    |false=>simp[hb]at hs
    |true=>
     simp only[hb,cond_true]at hs
     simp only[Gu]at hb
     split at hs
     ·rename_i h' jD
      obtain rfl:=qy hs
      exact .inl (jou m e ho h1 hv hb.2 jD)
     ·cases hs
   ·cases hs
 ·cases hc
theorem q6g (m:az P C ω w0 C0 hp w)(e:ak C ω w w0.heap.size env a.tmps){i x}(ho:o.op=.extract x i)(hc:cV P h md r dst (.extract x i)=I cP)(hs:qf p xc h0 al env hp cP=I res):yd P C C0 w0 a d env o w res:=by
 simp only[cV]at hc
 obtain⟨y,hy,rfl⟩:=En.1 hc
 simp only[qf,qo]at hs
 split at hs
 ·rename_i vs hv
  obtain⟨u,hu,rfl⟩:=uU hs
  exact jh m e (q6t e.ct ho hy hv hu)
 ·cases hs
theorem q4t (m:az P C ω w0 C0 hp w)(e:ak C ω w w0.heap.size env a.tmps){f xs ys}(ho:o.op=.makeFunc f xs ys)(hc:cV P h md r dst (.makeFunc f xs ys)=I cP)(hs:qf p xc h0 al env hp cP=I res):yd P C C0 w0 a d env o w res:=by
 simp only[cV]at hc
 split at hc
 ·split at hc
  ·rename_i k fQ n9 h1 h2
   cases hc
   simp only[qf,qo]at hs
   split at hs
   ·rename_i us vs e1 e2
    obtain rfl:=qy hs
    exact jh m e (q9x e.ct ho h1 h2 e1 e2)
   ·cases hs
  ·cases hc
 ·cases hc
theorem q53 (m:az P C ω w0 C0 hp w)(e:ak C ω w w0.heap.size env a.tmps){t:TypeId}{x}(ho:o.op=.makeMap t x)(hc:cV P h md r dst (.makeMap t x)=I cP)(hs:qf p xc h0 al env hp cP=I res):yd P C C0 w0 a d env o w res:=by
 cases x with
 |some x=>simp[cV]at hc
 |none=>
  simp only[cV]at hc
  split at hc
  ·cases hc
   simp only[qf,qp]at hs
   split at hs
   ·rename_i h' hn
    obtain rfl:=qy hs
    exact .inl (jcm m e ho hn)
   ·cases hs
  ·cases hc
theorem jc2 (m:az P C ω w0 C0 hp w)(e:ak C ω w w0.heap.size env a.tmps){t:TypeId}{x}(ho:o.op=.range t x)(hc:cV P h md r dst (.range t x)=I cP)(hs:qf p xc h0 al env hp cP=I res):yd P C C0 w0 a d env o w res:=by
 simp only[cV]at hc
 split at hc
 ·rename_i ht
  obtain⟨y,hy,rfl⟩:=En.1 hc
  simp only[qf,qp]at hs
  split at hs
  ·rename_i s hv
   split at hs
   ·rename_i h' hn
    obtain rfl:=qy hs
    exact .inl (q77 m e ho ht hy hv hn)
   ·cases hs
  ·cases hs
 ·cases hc
theorem jjh (m:az P C ω w0 C0 hp w)(e:ak C ω w w0.heap.size env a.tmps){x b}(ho:o.op=.next x b)(hc:cV P h md r dst (.next x b)=I cP)(hs:qf p xc h0 al env hp cP=I res):yd P C C0 w0 a d env o w res:=by
 cases b with
 |false=>simp[cV]at hc
 |true=>
  simp only[cV]at hc
  obtain⟨y,hy,rfl⟩:=En.1 hc
  simp only[qf,qp]at hs
  split at hs
  ·rename_i b hv
   cases hk:j9 h0 al b with
   |false=>simp[hk]at hs
   |true=>
    simp only[hk,cond_true]at hs
    split at hs
    ·rename_i s pos hb
     obtain⟨k1,k2⟩:=jci (d:=d) m e ho hy hv hb
     cases hp:Yq pos s.length with
     |true=>
      simp only[hp,cond_true]at hs
      split at hs
      ·rename_i h' bJ
       obtain rfl:=qy hs
       exact .inl (k1 (X9.mp hp) h' bJ)
      ·cases hs
     |false=>
      simp only[hp,cond_false]at hs
      obtain rfl:=qy hs
      exact .inl (k2 (fun h=>by rw[X9.mpr h]at hp;cases hp))
    ·cases hs
  ·cases hs
theorem ja0 (m:az P C ω w0 C0 hp w)(e:ak C ω w w0.heap.size env a.tmps){t:TypeId}{x y ok}(ho:o.op=.lookup t x y ok)(hc:cV P h md r dst (.lookup t x y ok)=I cP)(hs:qf p xc h0 al env hp cP=I res):yd P C C0 w0 a d env o w res:=by
 simp only[cV]at hc
 split at hc
 ·rename_i kt el ht
  split at hc
  ·rename_i kd z x' y' iI hz h1 h2
   cases hc
   simp only[qf,yi]at hs
   split at hs
   ·rename_i b kv e1 e2
    cases hk:j9 h0 al b with
    |false=>simp[hk]at hs
    |true=>
     simp only[hk,cond_true]at hs
     split at hs
     ·rename_i es hb
      split at hs
      ·rename_i i v hf
       obtain rfl:=qy hs
       exact jh m e (QX m e ho ht iI hz h1 h2 e1 e2 (.inr ⟨b,es,rfl,hb,hf⟩))
      ·rename_i hf
       obtain rfl:=qy hs
       exact jh m e (QX m e ho ht iI hz h1 h2 e1 e2 (.inr ⟨b,es,rfl,hb,hf⟩))
      ·cases hs
     ·cases hs
   ·rename_i kv e1 e2
    obtain rfl:=qy hs
    exact jh m e (QX m e ho ht iI hz h1 h2 e1 e2 (.inl ⟨rfl,rfl⟩))
   ·cases hs
  ·cases hc
 ·cases hc
theorem qof (m:az P C ω w0 C0 hp w)(e:ak C ω w w0.heap.size env a.tmps){t:TypeId}{x y z}(ho:o.op=.mapUpdate t x y z∨o.op=.insert t x y z)(hc:cV P h md r dst (.mapUpdate t x y z)=I cP)(hs:qf p xc h0 al env hp cP=I res):yd P C C0 w0 a d env o w res:=by
 simp only[cV]at hc
 split at hc
 ·rename_i kt el ht
  split at hc
  ·rename_i kd x' y' z' iI h1 h2 h3
   cases hc
   simp only[qf,qp]at hs
   split at hs
   ·rename_i b kv v e1 e2 e3
    cases hk:j9 h0 al b with
    |false=>simp[hk]at hs
    |true=>
     simp only[hk,cond_true]at hs
     split at hs
     ·rename_i es hb
      split at hs
      ·rename_i i u hf
       split at hs
       ·rename_i h' bJ
        obtain rfl:=qy hs
        exact .inr (.inl (qoa m e ho ht iI h1 h2 h3 e1 e2 e3 hb (.inl ⟨i,u,hf,bJ⟩)))
       ·cases hs
      ·rename_i hf
       cases hl:St es.length 1073741824 with
       |false=>simp[hl]at hs
       |true=>
        simp only[hl,cond_true]at hs
        split at hs
        ·rename_i h' bJ
         obtain rfl:=qy hs
         exact .inr (.inl (qoa m e ho ht iI h1 h2 h3 e1 e2 e3 hb (.inr ⟨hf,bJ⟩)))
        ·cases hs
      ·cases hs
     ·cases hs
   ·cases hs
  ·cases hc
 ·cases hc
end
section
variable {P:Program}{p:jz}{xc:XC}{C C0:aK}{ω:Nat→Option Loc}{w w0:World}{hp:qh}{env:Env}{a:Act}{o:Oper}{d:Loc}{h:qk}{md:ep}{r h0:Nat}{dst:Option Nat}{al:Option (List Nat)}{cP:cU}{res:bm}
theorem uV (w:World){d}{t:TypeId}{x y b}{u:TypeDesc}(h:(∃e,u=.slice e∧y=.slice Es 0 0∧∃q l c,x=.slice q l c∧b=q.isNone)∨(∃e,u=.pointer e∧y=.pointer Es∧∃q,x=.pointer q∧b=q.isNone) ∨
  (∃k e,u=.map k e∧y=.map Es∧∃q,x=.map q∧b=q.isNone)∨(∃k e v,u=.func k e v∧y=.nilFunc∧((x=.nilFunc∧b=Ga)∨∃f i j,x=.func f i j∧b=E9))) (ht:P.underlying t=I u):
  (Op.equalIn (d+1) t x y).run P w=.ok b w:=by
 rcases h with⟨e,rfl,rfl,q,l,c,rfl,rfl⟩|⟨e,rfl,rfl,q,rfl,rfl⟩|⟨k,e,rfl,rfl,q,rfl,rfl⟩|⟨k,e,v,rfl,rfl,⟨rfl,rfl⟩|⟨f,i,j,rfl,rfl⟩⟩
 ·cases q<;>simp[Op.equalIn,run_underlying ht]
 ·cases q<;>simp[Op.equalIn,run_underlying ht]
 ·cases q<;>simp[Op.equalIn,run_underlying ht]
 ·simp[Op.equalIn,run_underlying ht]
 ·simp[Op.equalIn,run_underlying ht]
theorem uW (m:az P C ω w0 C0 hp w)(e:ak C ω w w0.heap.size env a.tmps){op}{t u:TypeId}{x y neq b c}(ho:o.op=.binOp op t x y u)(hop:op=if neq then .neq else .eql)(hy:a.eval y=c)
  (bL:(∀k n,a.eval x≠.int k n)∧(∀s,a.eval x≠.string s)∧(∀k n,a.eval x≠.float k n)∧(∀k n m,a.eval x≠.complex k n m)) (dk:∀cs,a.eval x≠.agg cs) (Qw:a.eval x≠.nilIface)
  (hq:(Op.equal t (a.eval x) c).run P w=.ok b w) {z} (hz:z=bif neq then !b else b):yd P C C0 w0 a d env o w ⟨.bool z,E9,Es,hp⟩:=by
 subst hz
 exact jh m e (jes ho hop hy bL dk Qw hq)
theorem KL (m:az P C ω w0 C0 hp w)(e:ak C ω w w0.heap.size env a.tmps){op}{t u:TypeId}{x y y' neq k c}(ho:o.op=.binOp op t x y u)(hop:op=if neq then .neq else .eql)(hx:qt x=I y')(hy:y=.const c)
  (hk:(k=0∧(∃el,P.underlying t=I (.slice el))∧c=.slice Es 0 0)∨(k=1∧(∃el,P.underlying t=I (.pointer el))∧c=.pointer Es)∨(k=2∧(∃k v,P.underlying t=I (.map k v))∧c=.map Es)∨(k=3∧(∃a b c,P.underlying t=I (.func a b c))∧c=.nilFunc))
  (hs:qf p xc h0 al env hp (.ft k neq y')=I res):yd P C C0 w0 a d env o w res:=by
 have pz:a.eval y=c:=by subst hy;simp[Act.eval]
 rcases hk with⟨rfl,⟨el,ht⟩,rfl⟩|⟨rfl,⟨el,ht⟩,rfl⟩|⟨rfl,⟨k,el,ht⟩,rfl⟩|⟨rfl,⟨k,el,q,ht⟩,rfl⟩
 ·simp only[qf,qo]at hs
  split at hs<;>first|(exfalso;omega)|skip
  ·rename_i n sz xs _ hv
   obtain rfl:=qy hs
   rcases(qv e.ct hx hv).da with⟨rfl,rfl,h1⟩|⟨h1,r,q,cap,h2,_⟩|⟨h1,_,ad,_,h2⟩
   ·exact uW m e ho hop pz (by simp[h1]) (by simp[h1]) (by simp[h1]) (b:=true) (by rw[h1];exact uV w (d:=9999) (by simp) ht) (by cases neq<;>rfl)
   all_goals
    subst h1
    exact uW m e ho hop pz (by simp[h2]) (by simp[h2]) (by simp[h2]) (b:=false) (by rw[h2];exact uV w (d:=9999) (by simp) ht) (by cases neq<;>rfl)
  ·rename_i b q n _ hv
   obtain rfl:=qy hs
   have hr:=qv e.ct hx hv
   generalize h2:a.eval x=ev at hr
   cases hr with
   |ms b o len r cap hb hl=>
    exact uW m e ho hop pz (by simp[h2]) (by simp[h2]) (by simp[h2]) (b:=false) (by rw[h2];exact uV w (d:=9999) (by simp) ht) (by cases neq<;>rfl)
  ·cases hs
 ·simp only[qf,qo]at hs
  split at hs<;>first|(exfalso;omega)|skip
  ·rename_i _ hv
   obtain rfl:=qy hs
   have hr:=qv e.ct hx hv
   generalize h2:a.eval x=ev at hr
   cases hr
   exact uW m e ho hop pz (by simp[h2]) (by simp[h2]) (by simp[h2]) (b:=true) (by rw[h2];exact uV w (d:=9999) (by simp) ht) (by cases neq<;>rfl)
  ·rename_i _ hv
   obtain rfl:=qy hs
   obtain⟨r,hr,h2⟩:=(qv e.ct hx hv).dw
   exact uW m e ho hop pz (by simp[h2]) (by simp[h2]) (by simp[h2]) (b:=false) (by rw[h2];exact uV w (d:=9999) (by simp) ht) (by cases neq<;>rfl)
  ·rename_i _ hv
   obtain rfl:=qy hs
   obtain⟨r,q,h2,_⟩:=(qv e.ct hx hv).eW
   exact uW m e ho hop pz (by simp[h2]) (by simp[h2]) (by simp[h2]) (b:=false) (by rw[h2];exact uV w (d:=9999) (by simp) ht) (by cases neq<;>rfl)
  ·cases hs
 ·simp only[qf,qo]at hs
  split at hs<;>first|(exfalso;omega)|skip
  ·rename_i _ hv
   obtain rfl:=qy hs
   have hr:=qv e.ct hx hv
   generalize h2:a.eval x=ev at hr
   cases hr
   exact uW m e ho hop pz (by simp[h2]) (by simp[h2]) (by simp[h2]) (b:=true) (by rw[h2];exact uV w (d:=9999) (by simp) ht) (by cases neq<;>rfl)
  ·rename_i _ hv
   obtain rfl:=qy hs
   have hr:=qv e.ct hx hv
   generalize h2:a.eval x=ev at hr
   cases hr
   exact uW m e ho hop pz (by simp[h2]) (by simp[h2]) (by simp[h2]) (b:=false) (by rw[h2];exact uV w (d:=9999) (by simp) ht) (by cases neq<;>rfl)
  ·cases hs
 ·simp only[qf,qo]at hs
  split at hs<;>first|(exfalso;omega)|skip
  ·rename_i _ hv
   obtain rfl:=qy hs
   have hr:=qv e.ct hx hv
   generalize h2:a.eval x=ev at hr
   cases hr
   exact uW m e ho hop pz (by simp[h2]) (by simp[h2]) (by simp[h2]) (b:=true) (by rw[h2];exact uV w (d:=9999) (by simp) ht) (by cases neq<;>rfl)
  ·rename_i _ hv
   obtain rfl:=qy hs
   have hr:=qv e.ct hx hv
   generalize h2:a.eval x=ev at hr
   cases hr
   exact uW m e ho hop pz (by simp[h2]) (by simp[h2]) (by simp[h2]) (b:=false) (by rw[h2];exact uV w (d:=9999) (by simp) ht) (by cases neq<;>rfl)
  ·cases hs
theorem Q0 (m:az P C ω w0 C0 hp w)(e:ak C ω w w0.heap.size env a.tmps){op}{t u:TypeId}{x y x' y'}(ho:o.op=.binOp op t x y u)(h1:qt x=I x')(h2:qt y=I y')(hs:qf p xc h0 al env hp (.bin op x' y')=I res):yd P C C0 w0 a d env o w res:=by
 simp only[qf,qo]at hs
 split at hs
 ·rename_i u v e1 e2
  obtain⟨z,hz,rfl⟩:=uU hs
  exact jh m e (jn4 e.ct ho h1 h2 e1 e2 hz)
 ·cases hs
theorem qwo (m:az P C ω w0 C0 hp w)(e:ak C ω w w0.heap.size env a.tmps){op}{t u:TypeId}{x y neq}(ho:o.op=.binOp op t x y u)(hop:op=if neq then .neq else .eql)(hc:Dj P op neq t x y=I cP)(hs:qf p xc h0 al env hp cP=I res):yd P C C0 w0 a d env o w res:=by
 have dT:Dj P op neq t x y=I cP:=hc
 unfold Dj at dT
 have eqs:∀ {ks:List Kd} {x' y':js},ym P t=I Ga→P.eqGuardType P.depth t=E9→uJ P Kk t=I ks→qt x=I x'→qt y=I y'→qf p xc h0 al env hp (.eqs ks neq x' y')=I res→yd P C C0 w0 a d env o w res:=by
  intro ks x' y' dk hg hk h1 h2 hs
  simp only[qf,qo]at hs
  split at hs
  ·rename_i u v e1 e2
   cases hb:(Gx u.length ks.length&&Gx v.length ks.length)with
   |false=>simp[hb]at hs
   |true=>
    simp only[hb,cond_true]at hs
    simp only[Gu]at hb
    split at hs
    ·rename_i b hq
     obtain rfl:=qy hs
     exact jh m e (jpe e.ct ho hop h1 h2 e1 e2 hg hk dk (Gd hb.1) (Gd hb.2) hq)
    ·cases hs
  ·cases hs
 split at dT
 ·split at dT
  ·rename_i h1 h2;cases dT;exact Q0 m e ho h1 h2 hs
  ·cases dT
 ·split at dT
  ·rename_i h1 h2;cases dT;exact Q0 m e ho h1 h2 hs
  ·cases dT
 ·rename_i ht
  split at dT
  ·rename_i h1 h2
   cases dT
   simp only[qf,qo]at hs
   split at hs
   ·rename_i u v e1 e2
    obtain rfl:=qy hs
    exact jh m e (jnp e.ct ho hop h1 h2 e1 e2 ht)
   ·cases hs
  ·cases dT
 ·rename_i fs ht
  split at dT
  ·rename_i hg
   split at dT
   ·rename_i ks x' y' hk h1 h2;cases dT;exact eqs (by simp[ym,ht]) (by simpa using hg) hk h1 h2 hs
   ·cases dT
  ·cases dT
 ·rename_i fs _ ht
  split at dT
  ·rename_i hg
   split at dT
   ·rename_i ks x' y' hk h1 h2;cases dT;exact eqs (by simp[ym,ht]) (by simpa using hg) hk h1 h2 hs
   ·cases dT
  ·cases dT
 ·rename_i el ht
  split at dT
  ·obtain⟨x',hx,rfl⟩:=En.1 dT
   exact KL m e ho hop hx rfl (.inl ⟨rfl,⟨el,ht⟩,rfl⟩) hs
  ·cases dT
 ·rename_i el ht
  split at dT
  ·obtain⟨x',hx,rfl⟩:=En.1 dT
   exact KL m e ho hop hx rfl (.inr (.inl ⟨rfl,⟨el,ht⟩,rfl⟩)) hs
  ·cases dT
 ·rename_i el _ ht
  split at dT
  ·obtain⟨x',hx,rfl⟩:=En.1 dT
   exact KL m e ho hop hx rfl (.inr (.inr (.inl ⟨rfl,⟨_,_,ht⟩,rfl⟩))) hs
  ·cases dT
 ·rename_i el _ _ ht
  split at dT
  ·obtain⟨x',hx,rfl⟩:=En.1 dT
   exact KL m e ho hop hx rfl (.inr (.inr (.inr ⟨rfl,⟨_,_,_,ht⟩,rfl⟩))) hs
  ·cases dT
 ·cases dT
theorem jo1 (m:az P C ω w0 C0 hp w)(e:ak C ω w w0.heap.size env a.tmps){op}{t u:TypeId}{x y}(ho:o.op=.binOp op t x y u)(hc:cV P h md r dst (.binOp op t x y u)=I cP)(hs:qf p xc h0 al env hp cP=I res):yd P C C0 w0 a d env o w res:=by
 simp only[cV]at hc
 unfold Qd at hc
 split at hc
 ·exact qwo (neq:=false) m e ho rfl hc hs
 ·exact qwo (neq:=true) m e ho rfl hc hs
 ·split at hc
  ·rename_i h1 h2;cases hc;exact Q0 m e ho h1 h2 hs
  ·cases hc
end
end Go.Abs
