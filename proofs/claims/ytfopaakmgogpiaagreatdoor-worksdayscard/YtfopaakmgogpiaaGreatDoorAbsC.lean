/- Operations that make a new slice. -/
import Derived.Test.YtfopaakmgogpiaaGreatDoorAbsB
open Option renaming some→I,none→E3,isSome_iff_exists→N3
open Bool renaming true→En,false→E6,false_eq_true→Sy,and_eq_true→Ta
open List renaming replicate→E2,getElem?_append_right→E4,getElem?_append_left→Gk,replicate_succ→Gp,getElem?_eq_some_iff→Ha,getElem?_eq_getElem→Hd,getElem?_take_of_lt→H7,mem_replicate→If,flatten_cons→Mr,append_assoc→Mw,getElem?_set_self→Mx,getElem?_toArray→Mz,mem_of_getElem?→Nh,getElem?_of_mem→N0,getElem?_set_ne→N1,mem_append→N2,mem_map→N4,length_set→R6,getElem?_eq_none→Sb,length_append→Sz,getElem?_drop→S1,getElem?_map→S7,flatMap_cons→S8,all_eq_true→Tb,mem_flatten→Tc,length_map→Te,mem_cons→Tn,take→Tq,map_cons→Ts
open Nat renaming eq_of_beq_eq_true→Gl,le_refl→Gn,beq→Md,add_mul→Sd,le_of_ble_eq_true→Sg,mul_le_mul_right→St,le_trans→S2,mul_eq_zero→Td,mul_le_mul→Tm
open Array renaming getD_eq_getD_getElem?→Gm,getElem?_toList→Gq,getElem?_eq_some_iff→G2,range→Hb,ext'→Tk
namespace Go.Abs
section
variable {P:Program}{C C0:ay}{ω:Nat→Option Loc}{w w0:World}{hp:j8}{env:Env}{a:Act}{o:Oper}{tmps:Array Value}{d:Loc}
theorem aj.strip {B:Nat}(e:aj C ω w B env tmps)(s:Option Nat):aj C ω w B (k9 env s) tmps:=by
 cases s with
 |none=>exact e
 |some s=>
  simp only[k9]
  split
  ·rename_i v o hl
   intro t x hx
   simp only[yd]at hx
   cases hb:Md s t with
   |false=>rw[hb]at hx;simp at hx;exact e t x hx
   |true=>
    rw[hb]at hx
    simp at hx
    subst hx
    obtain rfl:=Gl hb
    obtain⟨u,h1,h2,_⟩:=e s _ hl
    exact⟨u,h1,h2,by simp⟩
  ·exact e
theorem q40 (m:av P C ω w0 C0 hp w)(e:aj C ω w w0.heap.size env tmps){x:qa}{v:Value}(h:bD C x v):kf P C0 w0 C tmps d env ⟨x,E6,E3,hp⟩ v w:=
 ⟨C,ω,ay.le_refl C,m,e,h,by simp⟩
theorem Mi (m:av P C ω w0 C0 hp w)(e:aj C ω w w0.heap.size env tmps)(cells:Array Value)(t:TypeId)(xs:List qa)(sz cap:Nat)(vs:List Value)(hr:aM C (xs.flatMap qa.flat) vs)
  (hv:∀(j:Nat) v,vs[j]?=I v→cells[j]?=I v) (h1:∀v∈vs,v.oneCell'=En) (hs:∀x∈xs,x.flat.length=sz) (hcap:xs.length≤cap) (b8:cap*sz≤cells.size) (s:Option Nat):
  kf P C0 w0 C tmps d env ⟨.list E6 sz xs,En,s,hp⟩ (.slice (I ⟨w.heap.size,0,E3⟩) xs.length cap) (w.alloc (.cells cells t)):=by
 have hn:∀o,C.K w.heap.size o=E3:=m.iV _ (Gn _)
 have hx:Ext w (w.alloc (.cells cells t)):=Ext.alloc w _ (fun c t fr h=>by cases h;rfl)
 have m1:=(m.newRow cells t vs hv h1)
 have Sk:∀ℓ x v,aF C ω w w0.heap.size ℓ x v→aF (C.put w.heap.size 0 vs) (cr ω w.heap.size d) (w.alloc (.cells cells t)) w0.heap.size ℓ x v:=fun ℓ x v ho=>((ho.fresh (Gn _)).put vs (.inl (Gn _))).ext hx
 have hle:=ay.fV (C:=C) (off:=0) vs (fun o _=>hn o)
 have hcells:=ay.eF (C:=C) (off:=0) (fun o _=>hn o) hr
 have hl:vs.length=xs.length*sz:=by rw[hr.length,lb xs hs]
 refine⟨C.put w.heap.size 0 vs,cr ω w.heap.size d,hle,?_,?_,?_,?_⟩
 ·exact { m1 with box:=fun b x r fg hb=>((m.box b x r fg hb).mono hle fun j y v ho=>(ho.fresh (Gn _)).put vs (.inl (Gn _))).ext hx }
 ·refine aj.strip ?_ s
  exact fun t x hx=>let ⟨v,h1,h2,h3⟩:=e t x hx; ⟨v,h1,qp.mono hle h2,fun h=>Sk _ _ _ (h3 h)⟩
 ·exact .list _ _ _ _ _ hcap (aY.ej hcells hs)
 ·intro _
  refine⟨by simp[cr],.inl m.size,?_,rfl,rfl,⟨cells,t,by rw[u0,if_pos rfl],by simpa using b8,ek.sized hs⟩,?_⟩
  ·intro b hb
   have:=(m.lt b _ hb).1
   simp at this
  ·intro o ho
   simp only[ay.put]
   rw[if_neg (by simp at ho;omega)]
   exact hn o
theorem Mj {zs:List Value}{sz:Nat}(hz:zs.length=sz)(hs:0<sz):∀(n:Nat),(List.range (n*sz)).map (fun i=>zs.toArray[i % zs.toArray.size]!)=(E2 n zs).flatten
 |0=>by simp
 |n+1=>by
  rw[Nat.succ_mul,List.range_add,List.map_append,Mj hz hs n,List.replicate_succ',List.flatten_append]
  congr 1
  simp only[List.map_map,Mr,List.flatten_nil,List.append_nil]
  apply List.ext_getElem?
  intro j
  rw[S7]
  by_cases hj:j<sz
  ·rw[List.getElem?_range hj]
   simp only[Option.map_some,Function.comp,List.size_toArray,hz]
   rw[Nat.mul_add_mod_self_right,Nat.mod_eq_of_lt hj]
   rw[Hd (by omega),getElem!_pos _ _ (by simpa[hz]using hj)]
   simp
  ·rw[Sb (by simpa using hj),Sb (by omega)]
   rfl
theorem aM.replicate {zs:List qa}{vs:List Value}(h:aM C zs vs):∀n:Nat,aM C (E2 n zs).flatten (E2 n vs).flatten
 |0=>.nil
 |n+1=>by
  rw[Gp,Gp,Mr,Mr]
  exact aM.append h (aM.replicate h n)
def tY (sz:Nat)(zero:List qa):qa:=bif Md sz 1 then zero.headD .undef else .agg zero
theorem Sl {sz:Nat}{zero:List qa}(hz:zero.length=sz)(hs:∀z∈zero,z.isAgg=E6):(tY sz zero).flat=zero:=by
 unfold tY
 cases hb:Md sz 1 with
 |false=>rfl
 |true=>
  obtain rfl:=Gl hb
  obtain⟨z,rfl⟩:=List.length_eq_one_iff.1 hz
  exact qcf (hs z (by simp))
theorem qod {sz:Nat}{zero:List qa}(hz:zero.length=sz)(hs:∀z∈zero,z.isAgg=E6)(n:Nat):(E2 n (tY sz zero)).flatMap qa.flat=(E2 n zero).flatten:=by
 induction n with
 |zero=>rfl
 |succ n ih=>rw[Gp,S8,Sl hz hs,ih,Gp,Mr]
theorem q1d {v:Value}{x:qa}(h:CW v=I x):ze x=En∧v.oneCell'=En:=by
 unfold CW at h
 split at h<;>first|cases h|skip
 all_goals exact⟨rfl,rfl⟩
theorem qn5:∀ {vs:List Value} {xs:List qa},uZ vs=I xs→(∀x∈xs,ze x=En)∧∀v∈vs,v.oneCell'=En
 | [],xs,h=>by simp[uZ]at h;subst h;simp
 |v::vs,xs,h=>by
  simp only[uZ]at h
  split at h
  ·rename_i x hx
   split at h
   ·rename_i ys mf
    cases h
    obtain⟨h1,h2⟩:=q1d hx
    obtain⟨h3,h4⟩:=qn5 mf
    exact⟨by simpa using⟨h1,h3⟩,by simpa using⟨h2,h4⟩⟩
   ·cases h
  ·cases h
theorem qnq {x:qa}(h:ze x=En):x.isAgg=E6:=by cases x<;>simp[ze,qa.isAgg]at *
theorem tZ {t:TypeId}{z:List qa}(h:ef P t=I z):(∀x∈z,ze x=En)∧∃v,(∀w,(zeroValue t).run P w=.ok v w)∧aM C z v.cells.toList∧∀u∈v.cells.toList,u.oneCell'=En:=by
 unfold ef at h
 split at h
 ·rename_i i hi
  split at h
  ·rename_i v hv
   obtain⟨h1,h2⟩:=qn5 h
   exact⟨h1,v,fun w=>by simp[zeroValue,typeInfo,hi,hv],L9 C h,h2⟩
  ·cases h
 ·cases h
theorem Sm {x:qa}{v:Value}(h:bD C x v)(hs:ze x=En):v.oneCell'=En:=by
 cases h<;>first|rfl|(simp[ze]at hs)
theorem yX {xs:List qa}:∀ {vs:List Value},aM C xs vs→(∀x∈xs,ze x=En)→∀v∈vs,v.oneCell'=En:=by
 induction xs with
 |nil=>intro vs h _ v hv;cases h;cases hv
 |cons x xs ih=>
  intro vs h hs v hv
  cases h with
  |cons _ _ u us hx h=>
   rcases Tn.1 hv with rfl|hv
   ·exact Sm hx (hs x (by simp))
   ·exact ih h (fun y hy=>hs y (by simp[hy])) v hv
theorem q0f:∀ (qs:List (Nat×List qa)) (xs ys:List qa),iU xs qs=I ys→(∀x∈xs,ze x=En)→(∀q∈qs,∀x∈q.2,ze x=En)→∀y∈ys,ze y=En
 | [],xs,ys,h,hx,_=>by simp[iU]at h;subst h;exact hx
 |(off,vs)::qs,xs,ys,h,hx,hq=>by
  simp only[iU]at h
  cases hb:Nat.ble (off+vs.length) xs.length with
  |false=>simp[hb]at h
  |true=>
   simp only[hb,cT]at h
   refine q0f qs _ ys h ?_ (fun q h=>hq q (by simp[h]))
   intro x h
   simp only[N2]at h
   rcases h with(h|h)|h
   ·exact hx x (List.mem_of_mem_take h)
   ·exact hq (off,vs) (by simp) x h
   ·exact hx x (List.mem_of_mem_drop h)
theorem qkb {sz:Nat}:∀(ps:List (Nat×qh)) (qs:List (Nat×qa)),iA env sz ps=I qs→∀q∈qs,∀x∈q.2.flat,ze x=En
 | [],qs,h=>by simp[iA]at h;subst h;simp
 |(i,x)::ps,qs,h=>by
  simp only[iA]at h
  split at h
  ·rename_i v pB
   cases hb:(Md v.flat.length sz&&v.flat.all ze)with
   |false=>simp[hb]at h
   |true=>
    simp only[hb,cT]at h
    simp only[Ta,Tb]at hb
    split at h
    ·rename_i r hr
     cases h
     intro q hq
     rcases Tn.1 hq with rfl|hq
     ·exact hb.2
     ·exact qkb ps r hr q hq
    ·cases h
  ·cases h
theorem qnl (e:aj C ω w w0.heap.size env a.tmps){t el:TypeId}{ps:Array (Nat×Operand)}{len sz:Nat}{z:List qa}{ft:List (Nat×qh)}{qs:List (Nat×qa)}{xs:List qa}
  (ho:o.op=.buildSlice t len ps) (ht:P.underlying t=I (.slice el)) (hn:yg P el=I sz) (hz:ef P el=I z) (hlen:sz*len≤65536) (h0:0<sz) (gJ:z.length=sz)
  (lP:wA ps.toList=I ft) (hq:iA env sz ft=I qs) (hx:kQ (E2 len (tY sz z)) qs=I xs):
  ∃ds,(execOp a.eval o).run P w=.ok (.value (.slice (I ⟨w.heap.size,0,E3⟩) len len)) (w.alloc (.cells ds el))∧aM C (xs.flatMap qa.flat) ds.toList∧(∀v∈ds.toList,v.oneCell'=En)∧(∀x∈xs,x.flat.length=sz)∧xs.length=len∧len*sz≤ds.size:=by
 obtain⟨pA,zv,kG,cw,kY⟩:=tZ (C:=C) hz
 have wG:∀x∈z,x.isAgg=E6:=fun x h=>qnq (pA x h)
 have mr:zv.cells.toList.length=sz:=by rw[cw.length,gJ]
 have iX:((Hb (len*sz)).map (fun i=>zv.cells[i % zv.cells.size]!)).toList=(E2 len zv.cells.toList).flatten:=by
  have:=Mj mr h0 len
  simpa using this
 obtain⟨tW,hqs⟩:=qpx e.bT ps.toList ft qs lP hq
 obtain⟨hf,oL,mg⟩:=qxh (sz:=sz) qs _ xs hx (by
  intro x h
  obtain⟨_,rfl⟩:=If.1 h
  rw[Sl gJ wG,gJ]) hqs
 rw[qod gJ wG]at hf
 obtain⟨ds,hd,hdr⟩:=Mh _ _ _ _ ((Hb (len*sz)).map (fun i=>zv.cells[i % zv.cells.size]!)) (by rw[iX];exact cw.replicate len) hf tW
 have iY:xs.length=len:=by simpa using mg
 have hsc:∀y∈xs.flatMap qa.flat,ze y=En:=q0f _ _ _ hf (by
  intro x h
  rw[Tc]at h
  obtain⟨l,h1,h2⟩:=h
  obtain⟨_,rfl⟩:=If.1 h1
  exact pA x h2) (by
  intro q hq1 x Da
  obtain⟨p,iZ,rfl⟩:=N4.1 hq1
  exact qkb ft qs hq p iZ x Da)
 have yY:ds.toList.length=len*sz:=by rw[hdr.length,lb xs oL,iY]
 refine⟨ds,?_,hdr,yX hdr hsc,oL,iY,by simp at yY;omega⟩
 ·have tX:(ps.map fun(x:Nat×Operand)=>(x.1,a.eval x.2)).toList=ps.toList.map fun x=>(x.1,a.eval x.2):=by simp
  have hle:¬(16777216<len*sz):=by rw[Nat.mul_comm];omega
  by_cases EM:len=0
  ·subst EM
   have hr:Hb 0=#[]:=rfl
   rw[Nat.zero_mul,hr,Array.map_empty]at hd
   simp only[execOp,ho,Instr.buildSlice,Sem.run_bind,run_underlying ht,Result.andThen_ok,iJ hn,tX]
   simp[hr,hd,newRow]
  ·have bw:¬(len*sz=0):=by
    intro h
    rcases Td.1 h with h|h<;>omega
   simp only[execOp,ho,Instr.buildSlice,Sem.run_bind,run_underlying ht,Result.andThen_ok,iJ hn,tX]
   simp[hle,bw,kG,hd,newRow]
theorem qzk (m:av P C ω w0 C0 hp w)(e:aj C ω w w0.heap.size env a.tmps){t el:TypeId}{ps:Array (Nat×Operand)}{len sz:Nat}{z:List qa}{ft:List (Nat×qh)}{qs:List (Nat×qa)}{xs:List qa}
  (ho:o.op=.buildSlice t len ps) (ht:P.underlying t=I (.slice el)) (hn:yg P el=I sz) (hz:ef P el=I z) (hlen:sz*len≤65536) (h0:0<sz) (gJ:z.length=sz)
  (lP:wA ps.toList=I ft) (hq:iA env sz ft=I qs) (hx:kQ (E2 len (tY sz z)) qs=I xs):
  ∃v w',(execOp a.eval o).run P w=.ok (.value v) w'∧kf P C0 w0 C a.tmps d env ⟨.list E6 sz xs,En,E3,hp⟩ v w':=by
 obtain⟨ds,bp,hdr,h1,oL,iY,b8⟩:=qnl (C:=C) (ω:=ω) (w:=w) (w0:=w0) e ho ht hn hz hlen h0 gJ lP hq hx
 refine⟨_,_,bp,?_⟩
 have ep:=Mi (d:=d) (tmps:=a.tmps) m e ds el xs sz len ds.toList hdr (by intro j v h;simpa using h) h1 oL (by omega) b8 E3
 rw[iY]at ep
 exact ep
theorem q6b (m:av P C ω w0 C0 hp w)(e:aj C ω w w0.heap.size env a.tmps){t el:TypeId}{x y:Operand}{x' y':qh}{n sz b:Nat}{z:List qa}
  (ho:o.op=.makeSlice t x y) (ht:P.underlying t=I (.slice el)) (hn:yg P el=I sz) (hb:np P el=I b) (hz:ef P el=I z) (h0:0<sz) (gJ:z.length=sz)
  (h1:zr x=I x') (h2:zr y=I y') (e1:zd env x'=I (.int .i64 (n:Int))) (e2:zd env y'=I (.int .i64 (n:Int))) (hle:n≤1073741824) (iK:b≤4096):
  ∃v w',(execOp a.eval o).run P w=.ok (.value v) w'∧kf P C0 w0 C a.tmps d env ⟨.list E6 sz (E2 n (tY sz z)),En,E3,hp⟩ v w':=by
 obtain⟨pA,zv,kG,cw,kY⟩:=tZ (C:=C) hz
 have wG:∀x∈z,x.isAgg=E6:=fun x h=>qnq (pA x h)
 have mr:zv.cells.toList.length=sz:=by rw[cw.length,gJ]
 have iX:((Hb (n*sz)).map (fun i=>zv.cells[i % zv.cells.size]!)).toList=(E2 n zv.cells.toList).flatten:=by
  have:=Mj mr h0 n
  simpa using this
 have r1:=(zu e.bT h1 e1).bF
 have r2:=(zu e.bT h2 e2).bF
 have oL:∀x∈E2 n (tY sz z),x.flat.length=sz:=by
  intro x h
  obtain⟨_,rfl⟩:=If.1 h
  rw[Sl gJ wG,gJ]
 have fE:aM C ((E2 n (tY sz z)).flatMap qa.flat) ((Hb (n*sz)).map (fun i=>zv.cells[i % zv.cells.size]!)).toList:=by
  rw[qod gJ wG,iX];exact cw.replicate n
 obtain⟨i,hi,pF⟩:∃i,P.info? el=I i∧i.bytes=b:=by
  unfold np at hb
  cases hi:P.info? el with
  |none=>simp[hi]at hb
  |some i=>exact⟨i,rfl,by simpa[hi]using hb⟩
 have jL:i.size=sz:=by
  unfold yg at hn
  rw[hi]at hn
  simpa using hn
 have pG:IntKind.i64.wrap (n:Int)=n:=by
  rw[←yT];unfold j9
  have:pv .i64 (n:Int)=En:=by simp[pv];exact S2 hle (by decide)
  rw[this];rfl
 have yR:b*n≤281474976710656:=S2 (Tm iK hle) (by decide)
 have ep:=Mi (d:=d) (tmps:=a.tmps) m e ((Hb (n*sz)).map (fun i=>zv.cells[i % zv.cells.size]!)) el (E2 n (tY sz z)) sz n _ fE (by intro j v h;rw[Gq]at h;exact h) (by
   rw[iX]
   intro v hv
   rw[Tc]at hv
   obtain⟨l,q1,q2⟩:=hv
   obtain⟨_,rfl⟩:=If.1 q1
   exact kY v q2) oL (by simp) (by simp) E3
 rw[List.length_replicate]at ep
 refine⟨_,_,?_,ep⟩
 have c1:¬((b:Int)*(n:Int) > 2^48):=by
  have h1:((b*n:Nat):Int)≤281474976710656:=Int.ofNat_le.2 yR
  rw[Int.natCast_mul]at h1
  have h2:(2:Int)^48=281474976710656:=by decide
  rw[h2];omega
 have c2:¬((n:Int)<0):=by omega
 have hr:Hb 0=#[]:=rfl
 simp only[execOp,ho,Instr.makeSlice,Sem.run_bind,run_underlying ht,r1,r2,asInt,asIntOf,Sem.run_pure,Result.andThen_ok,typeInfo,run_program,hi,pF,pG,c2,c1,decide_false,Bool.or_false,Sy,if_false,Int.lt_irrefl,gt_iff_lt,run_askRoom,Int.toNat_natCast,iJ hn,newRow]
 by_cases yU:n=0
 ·subst yU
  simp[hr]
 ·have bw:¬(n*sz=0):=by
   intro h
   rcases Td.1 h with h|h<;>omega
  simp[bw,kG]
end
structure jm (w w':World)(r:Nat)(cs:Array Value):Prop where
 at_:∃t,w'.heap[r]?=I (.cells cs t (0,0))
 size:w'.heap.size=w.heap.size
 other:∀k,k≠r→w'.heap[k]?=w.heap[k]?
 os:w'.os=w.os
 output:w'.output=w.output
theorem EN {w:World}{r:Nat}{old:Array Value}{t:TypeId}(h:w.heap[r]?=I (.cells old t (0,0)))(cs:Array Value):jm w (w.setRow r cs) r cs:=
 ⟨⟨t,setRow_heap w r old cs t (0,0) h⟩,setRow_size w r cs,fun k hk=>setRow_other w r k cs hk,rfl,rfl⟩
section
variable {P:Program}{C C0:ay}{ω:Nat→Option Loc}{w w' w0:World}{hp:j8}{env:Env}{a:Act}{o:Oper}{tmps:Array Value}{d:Loc}
theorem aF.ia {B r:Nat}{cs:Array Value}{ℓ:Loc}{x:qa}{v:Value}(hu:jm w w' r cs)(hr:ω r≠I ℓ)(ho:aF C ω w B ℓ x v):aF C ω w' B ℓ x v:=by
 unfold aF at *
 split at ho
 ·rename_i a len cap
  obtain⟨h1,h2,h3,h4,h8,⟨cells,elem,h5,h6⟩,h7⟩:=ho
  refine⟨h1,h2,h3,h4,h8,⟨cells,elem,?_,h6⟩,h7⟩
  rw[hu.other _ (fun h=>hr (h▸h1))]
  exact h5
 ·rename_i a
  obtain⟨h1,h2,h3,h4,h8,⟨cells,elem,h5,h6⟩,h7⟩:=ho
  refine⟨h1,h2,h3,h4,h8,⟨cells,elem,?_,h6⟩,h7⟩
  rw[hu.other _ (fun h=>hr (h▸h1))]
  exact h5
 ·trivial
theorem bn.ia {B b r r':Nat}{cs:Array Value}{x:qn}(hu:jm w w' r cs)(bw:r'≠r)(hr:∀j,ω r≠I (.cell b j))(hb:bn P C ω w B b r' x):bn P C ω w' B b r' x:=by
 have hg:=hu.other r' bw
 cases x with
 |hole=>exact hb
 |cells dQ=>
  obtain⟨vs,elem,h1,h2,h3⟩:=hb
  exact⟨vs,elem,by rw[hg];exact h1,h2,fun j c hc=>let ⟨v,a,q,b,d⟩:=h3 j c hc; ⟨v,a,q,b,fun e=>(d e).ia hu (hr j)⟩⟩
 |map es=>obtain⟨bP,clock,h1,h2⟩:=hb;exact⟨bP,clock,by rw[hg];exact h1,h2⟩
 |iter s pos=>show w'.heap[r']?=_;rw[hg];exact hb
 |loop l=>obtain⟨lp,h1,h2⟩:=hb;exact⟨lp,by rw[hg];exact h1,h2⟩
 |fB t e l=>obtain⟨p,v,h1,h2,h3,h4⟩:=hb;exact⟨p,v,by rw[hg];exact h1,h2,h3,h4.ia hu (hr 1)⟩
 |dead=>obtain⟨cs,t,h1⟩:=hb;exact⟨cs,t,by rw[hg];exact h1⟩
 |vec sz bu xs=>exact dC.imp (fun _ _ _ h=>h) (fun _ h=>h) (fun _ h _=>h) hg (fun q n cap k=>⟨hu.other q (fun hq=>hr 0 (hq▸k.1)),k.ia hu (hr 0)⟩) hb
theorem qw2 (m:av P C ω w0 C0 hp w)(e:aj C ω w w0.heap.size env tmps){r q:Nat}{cells:Array Value}{t:TypeId}{news:List Value}{s:Nat}(hω:ω r=I (.slot s))(hB:w0.heap.size≤r∨C.W r)(hβ:∀b,C.β b≠I r)
  (hg:w.heap[r]?=I (.cells cells t (0,0))) (b8:q+news.length≤cells.size) (hK:∀o,q≤o→C.K r o=E3) (h1:∀v∈news,v.oneCell'=En):
  av P (C.put r q news) (cr ω r d) w0 C0 hp (w.setRow r (cells.toList.take q++news++cells.toList.drop (q+news.length)).toArray) ∧
  aj (C.put r q news) (cr ω r d) (w.setRow r (cells.toList.take q++news++cells.toList.drop (q+news.length)).toArray) w0.heap.size (k9 env (I s)) tmps∧C.le (C.put r q news):=by
 have hu:=EN hg (cells.toList.take q++news++cells.toList.drop (q+news.length)).toArray
 generalize Sn:w.setRow r (cells.toList.take q++news++cells.toList.drop (q+news.length)).toArray=w' at hu
 have hle:=ay.fV (C:=C) (off:=q) news hK
 have cB:∀ℓ x v,ℓ≠.slot s→aF C ω w w0.heap.size ℓ x v→aF (C.put r q news) (cr ω r d) w' w0.heap.size ℓ x v:=by
  intro ℓ x v hℓ ho
  have bw:ω r≠I ℓ:=by rw[hω];intro h;exact hℓ (I.inj h).symm
  have h2:aF (C.put r q news) ω w' w0.heap.size ℓ x v:=(ho.put news (.inr bw)).ia hu bw
  exact h2.other (.inl bw)
 refine⟨?_,?_,hle⟩
 ·have EO:=hu.size
  refine { base:=m.base,know:=?_,cQ:=?_,apart:=?_,inj:=m.inj,lt:=?_,size:=?_,frame:=?_,eK:=?_,os:=hu.os.trans m.os,output:=hu.output.trans m.output,fresh:=m.fresh,grown:=ay.le_trans m.grown hle,old:=?_,box:=?_,gV:=fun q hq=>by rw[hu.size];exact m.gV q hq }
  ·intro b p v hk
   simp only[ay.put]at hk
   split at hk
   ·rename_i hc
    obtain⟨rfl,h2,h3⟩:=hc
    obtain⟨t',EP⟩:=hu.at_
    simp only[World.cell?,EP]
    rw[Mz,Mw,E4 (by simp;omega),Gk (by simp;omega)]
    have:(Tq q cells.toList).length=q:=by simp;omega
    rw[this]
    simpa using hk
   ·by_cases hb:b=r
    ·subst hb
     have aX:p<q:=by
      rcases Nat.lt_or_ge p q with h|h
      ·exact h
      ·rw[hK p h]at hk;cases hk
     have hc:=m.know _ _ _ hk
     obtain⟨t',EP⟩:=hu.at_
     simp only[World.cell?,hg]at hc
     simp only[World.cell?,EP]
     simp only[Option.isSome_none,Sy,if_false]at hc ⊢
     rw[Mz,Mw,Gk (by simp;omega),H7 aX,Gq]
     exact hc
    ·have hc:=m.know _ _ _ hk
     simp only[World.cell?]at hc ⊢
     rw[hu.other b hb]
     exact hc
  ·intro b p v hk
   simp only[ay.put]at hk
   split at hk
   ·exact h1 v (Nh hk)
   ·exact m.cQ b p v hk
  ·intro b p o hb
   simp only[ay.put]
   rw[if_neg]
   ·exact m.apart b p o hb
   ·rintro ⟨rfl,_⟩;exact hβ b hb
  ·intro b p hb
   rw[EO];exact m.lt b p hb
  ·rw[EO];exact m.size
  ·intro k hk hn hw
   have gK:k≠r:=fun h=>by
    subst h
    rcases hB with h|h
    ·omega
    ·rw[m.grown.w]at h;exact hw h
   rw[hu.other k gK];exact m.frame k hk hn hw
  ·intro k hk
   have gK:k≠r:=fun h=>by
    subst h
    have:=m.eK k hk
    rw[hg]at this;cases this
   rw[hu.other k gK];exact m.eK k hk
  ·intro k o hk hw
   have gK:k≠r:=fun h=>by
    subst h
    rcases hB with h|h
    ·omega
    ·rw[m.grown.w]at h;exact hw h
   simp only[ay.put]
   rw[if_neg (by rintro ⟨h,_⟩;exact gK h)]
   exact m.old k o hk hw
  ·intro b x p hx hb
   have bw:p≠r:=fun h=>hβ b (h▸hb)
   have ua:=m.box b x p hx hb
   have kH:bn P C ω w' w0.heap.size b p x:=ua.ia hu bw (fun j=>by rw[hω];simp)
   refine kH.mono hle fun j y v ho=>?_
   have lf:ω r≠I (.cell b j):=by rw[hω];simp
   exact(ho.put news (.inr lf)).other (.inl lf)
 ·intro t x hx
  have hlk:∃v o,yd s env=I (v,o)∨yd s env=E3:=by
   cases h:yd s env with
   |none=>exact⟨.undef,E6,.inr rfl⟩
   |some x=>exact⟨x.1,x.2,.inl rfl⟩
  by_cases lg:t=s
  ·subst lg
   simp only[k9]at hx
   cases hl:yd t env with
   |none=>rw[hl]at hx;simp only[hl]at hx;cases hx
   |some y=>
    rw[hl]at hx
    simp only[yd,Nat.beq_refl,cT]at hx
    cases hx
    obtain⟨v,h2,h3,_⟩:=e t y hl
    exact⟨v,h2,qp.mono hle h3,by simp⟩
  ·have fg:yd t env=I x:=by
    simp only[k9]at hx
    cases hl:yd s env with
    |none=>rw[hl]at hx;exact hx
    |some y=>
     rw[hl]at hx
     simp only[yd]at hx
     have:Md s t=E6:=by
      cases hb:Md s t with
      |false=>rfl
      |true=>exact absurd (Gl hb).symm lg
     rw[this]at hx
     exact hx
   obtain⟨v,h2,h3,h4⟩:=e t x fg
   exact⟨v,h2,qp.mono hle h3,fun h=>cB _ _ _ (by simp[lg]) (h4 h)⟩
theorem So {t tx ty e:TypeId}{i:TypeInfo}(ht:P.underlying t=I (.slice e))(hi:P.info? e=I i)(r off mA yZ:Nat)(x:Value)(n:Nat)(news:List Value)(hs:Src P i.size tx x n news w)(dN:mA+n≤yZ)
  {cells:Array Value} {te:TypeId} (hg:w.heap[r]?=I (.cells cells te (0,0))) (b8:off+mA*i.size+news.length≤cells.size):
  (Builtin.append_ #[t,tx] ty #[.slice (I ⟨r,off,E3⟩) mA yZ,x]).run P w =
   .ok (.slice (I ⟨r,off,E3⟩) (mA+n) yZ) (w.setRow r (cells.toList.take (off+mA*i.size)++news++cells.toList.drop (off+mA*i.size+news.length)).toArray):=by
 have bS:=run_storeCells_at (P:=P) r (off+mA*i.size) te news 0 cells w hg (by simpa using b8) hs.one
 simp only[Nat.add_zero]at bS
 rcases hs.kind with⟨e',hk⟩|hk<;>simp[Builtin.append_,run_underlying ht,run_underlying hk,sizeOf,typeInfo,hi,hs.len,dN,hs.cells,Addr.add_lit,bS]
theorem ql7 {t tx ty e:TypeId}{i:TypeInfo}(ht:P.underlying t=I (.slice e))(hi:P.info? e=I i)(x:Value)(hs:Src P i.size tx x 0 [] w):
  (Builtin.append_ #[t,tx] ty #[.slice E3 0 0,x]).run P w=.ok (.slice E3 0 0) w:=by
 rcases hs.kind with⟨e',hk⟩|hk<;>simp[Builtin.append_,run_underlying ht,run_underlying hk,sizeOf,typeInfo,hi,hs.len,hs.cells]
theorem Ml (m:av P C ω w0 C0 hp w){u:TypeId}{ut:TypeDesc}{sz:Nat}{vy:qa}{ys:List qa}{v:Value}(hu:P.underlying u=I ut)(iL:yM ut=En)(h:kl sz vy=I ys)(hr:bD C vy v):
  ∃news,Src P sz u v ys.length news w∧aM C (ys.flatMap qa.flat) news∧(∀y∈ys,y.flat.length=sz)∧∀x∈news,x.oneCell'=En:=by
 have hk:(∃e',P.underlying u=I (.slice e'))∨P.underlying u=I .string:=by
  cases ut<;>simp[yM]at iL
  ·exact .inr hu
  ·exact .inl ⟨_,hu⟩
 cases vy with
 |list n sy nx=>
  simp only[kl]at h
  cases hb:(Md sz sy||nx.isEmpty)with
  |false=>simp[hb]at h
  |true=>
   simp only[hb,cT,I.injEq]at h
   subst h
   rcases hr.cG with⟨rfl,rfl,rfl⟩|⟨rfl,r,q,cap,rfl,_,cL⟩|⟨rfl,rfl,ad,_,rfl⟩
   ·exact⟨[],⟨hk,fun _=>rfl,run_firstCells_none w sz 0 0 0,run_firstCells_none w.drew sz 0 0 0,by simp,by simp⟩,.nil,by simp,by simp⟩
   ·obtain⟨news,h1,h2⟩:=bY.vals cL.cells
    have h3:∀x∈news,x.oneCell'=En:=fun x hx=>by
     obtain⟨j,hj⟩:=N0 hx
     exact m.cQ _ _ _ (h2 j x hj)
    have cD:∀y∈nx,y.flat.length=sz:=by
     intro y hy
     rcases Bool.or_eq_true _ _▸hb with hb|hb
     ·rw[Gl hb];exact cL.sized y hy
     ·rw[List.isEmpty_iff.1 hb]at hy;cases hy
    have hl:news.length=nx.length*sz:=by rw[h1.length,lb nx cD]
    have hc:∀j u,news[j]?=I u→w.cell? ((⟨r,q,E3⟩:Addr).add j)=I u:=fun j u hj=>by rw[add_lit];exact m.know _ _ _ (h2 j u hj)
    refine⟨news,⟨hk,fun _=>rfl,run_firstCells_some w sz _ _ _ _ news hl hc,run_firstCells_some w.drew sz _ _ _ _ news hl (by simpa using hc),hl,h3⟩,h1,cD,h3⟩
   ·exact⟨[],⟨hk,fun _=>rfl,run_firstCells_some w sz _ _ _ _ [] (by simp) (by simp),run_firstCells_some w.drew sz _ _ _ _ [] (by simp) (by simp),by simp,by simp⟩,.nil,by simp,by simp⟩
 |str s=>
  simp only[kl]at h
  cases hb:Md sz 1 with
  |false=>simp[hb]at h
  |true=>
   simp only[hb,cT,I.injEq]at h
   obtain rfl:=Gl hb
   subst h
   obtain rfl:=hr.bW
   have jA:∀l:List UInt8,(l.map fun(c:UInt8)=>qa.int .u8 c.toNat).flatMap qa.flat=l.map fun(c:UInt8)=>qa.int .u8 c.toNat:=by
    intro l;induction l with
    |nil=>rfl
    |cons c l ih=>simp only[Ts,S8,ih];rfl
   have fE:∀l:List UInt8,aM C (l.map fun(c:UInt8)=>qa.int .u8 c.toNat) (l.map fun b=>Value.int .u8 b.toNat):=by
    intro l;induction l with
    |nil=>exact .nil
    |cons c l ih=>exact .cons _ _ _ _ (.int _ _) ih
   refine⟨byteCells ⟨⟨s⟩⟩,⟨hk,fun w'=>by simp[Builtin.lenOf];rfl,?_,?_,?_,?_⟩,?_,?_,?_⟩
   ·rw[Te];exact firstCells_string (P:=P) ⟨⟨s⟩⟩ w
   ·rw[Te];exact firstCells_string (P:=P) ⟨⟨s⟩⟩ w.drew
   ·simp[byteCells]
   ·intro u hu;obtain⟨_,_,rfl⟩:=N4.1 hu;rfl
   ·rw[jA];simpa[byteCells]using fE s
   ·intro y hy;obtain⟨_,_,rfl⟩:=N4.1 hy;rfl
   ·intro u hu;obtain⟨_,_,rfl⟩:=N4.1 hu;rfl
 |_=>simp[kl]at h
theorem EQ {x:qh}{s:Nat}(h:kg env x=I s):x=.tmp s∧∃v,yd s env=I (v,En):=by
 unfold kg at h
 split at h
 ·split at h
  ·rename_i t v hl
   cases h
   exact⟨rfl,v,hl⟩
  ·cases h
 ·cases h
theorem q4z (e:aj C ω w w0.heap.size env a.tmps){x:Operand}{x':qh}{sz len cap:Nat}{xs:List qa}{ad:Addr}(h1:zr x=I x')(cB:(kg env x').isSome=En)(e1:zd env x'=I (.list E6 sz xs))(hx:a.eval x=.slice (I ad) len cap):ad.spot=E3:=by
 obtain⟨s,gA⟩:=N3.1 cB
 obtain⟨fg,v0,hl⟩:=EQ gA
 have fF:v0=.list E6 sz xs:=by
  subst fg
  simp only[zd,hl]at e1
  exact I.inj e1
 subst fF
 obtain⟨cv,wH,Mm,zc⟩:=e s _ hl
 have nU:cv=.slice (I ad) len cap:=by
  have ib:zr x=I (.tmp s):=by rw[h1,fg]
  cases x with
  |tmp t'=>
   simp only[zr]at ib
   cases ib
   have:a.eval (.tmp s)=cv:=by simp[Act.eval,Gm,wH]
   rw[←this,hx]
  |const u=>simp only[zr]at ib;split at ib<;>cases ib
  |func f=>simp[zr]at ib
  |global g=>simp[zr]at ib
 subst nU
 exact(zc rfl).2.2.2.1
theorem q8w (m:av P C ω w0 C0 hp w)(e:aj C ω w w0.heap.size env a.tmps){c:Call}{t u el:TypeId}{ut:TypeDesc}{x y:Operand}{x' y':qh}{sz b:Nat}{n:Bool}{cJ:Nat}{xs ys:List qa}{vy:qa}
  (ho:o.op=.call c) (dx:c.callee=.builtin .append) (dG:c.args.toList=[x,y]) (dU:c.argTypes.toList=[t,u]) (ht:P.underlying t=I (.slice el)) (hu:P.underlying u=I ut) (iL:yM ut=En)
  (hn:yg P el=I sz) (hb:np P el=I b) (h1:zr x=I x') (h2:zr y=I y') (e1:zd env x'=I (.list n cJ xs)) (e2:zd env y'=I vy) (cy:kl sz vy=I ys)
  (cB:n=En∨(kg env x').isSome=En) (zj:sz=cJ∨(xs=[]∧n=En)) (hlen:xs.length+ys.length≤1073741824) (iK:b≤4096) (hzero:∃z,ef P el=I z∧z.length=sz):
  ∃v w',(execOp a.eval o).run P w=.ok (.value v) w'∧kf P C0 w0 C a.tmps d env ⟨pw n sz xs ys,En,kg env x',hp⟩ v w':=by
 have ha:c.args=#[x,y]:=by apply Tk;simpa using dG
 have jK:c.argTypes=#[t,u]:=by apply Tk;simpa using dU
 obtain⟨i,hi,pF⟩:∃i,P.info? el=I i∧i.bytes=b:=by
  unfold np at hb
  cases hi:P.info? el with
  |none=>simp[hi]at hb
  |some i=>exact⟨i,rfl,by simpa[hi]using hb⟩
 have jL:i.size=sz:=by
  unfold yg at hn;rw[hi]at hn;simpa using hn
 obtain⟨z,hz,zk⟩:=hzero
 obtain⟨zv,mC⟩:∃zv,i.zero=I zv:=by
  unfold ef at hz;rw[hi]at hz
  cases hq:i.zero with
  |none=>simp[hq]at hz
  |some v=>exact⟨v,rfl⟩
 have rx:=zu e.bT h1 e1
 have ry:=zu e.bT h2 e2
 obtain⟨news,hs,cH,fi,cI⟩:=Ml m hu iL cy ry
 have et:∀ {z:Value} {w':World},(Builtin.append_ #[t,u] o.type #[a.eval x,a.eval y]).run P w=.ok z w'→(execOp a.eval o).run P w=.ok (.value z) w':=by
  intro z w' h
  simp[execOp,ho,resolve,dx,ha,jK,invoke,builtin,h]
 have mE:news.length=ys.length*sz:=by rw[cH.length,lb ys fi]
 -- a new row
 have grow:∀(base:Option Addr) (cap:Nat) (dV:List Value),a.eval x=.slice base xs.length cap→cap<xs.length+ys.length→(∀(w':World),w'=w.drew→(Builtin.firstCells i.size xs.length (.slice base xs.length cap)).run P w'=.ok dV.toArray w') →
   aM C (xs.flatMap qa.flat) dV→(∀v∈dV,v.oneCell'=En)→(∀x∈xs,x.flat.length=sz) →
   ∃v w',(execOp a.eval o).run P w=.ok (.value v) w'∧kf P C0 w0 C a.tmps d env ⟨.list E6 sz (xs++ys),En,kg env x',hp⟩ v w':=by
  intro base cap dV pH hcap hold wI ER nW
  have b8:Builtin.nextslicecap (xs.length+ys.length) cap*i.bytes≤281474976710656:=growslice_fits hcap (by
   rw[pF]
   exact S2 (Tm hlen iK) (by decide))
  have bp:=run_append_grow_src w t u o.type el i zv ht hi mC base xs.length cap dV (hold _ rfl) (a.eval y) ys.length news (jL▸hs) hcap (by omega) b8
  rw[←pH]at bp
  refine⟨_,_,et bp,?_⟩
  have hx:Ext w w.drew:=Ext.drew w
  have ub:=grownCap_ge w (xs.length+ys.length) cap el
  have gJ:zv.cells.size=sz:=by
   obtain⟨_,zv',kY,ES,_⟩:=tZ (C:=C) hz
   have:=kY w
   simp[zeroValue,typeInfo,hi,mC]at this
   subst this
   have:=ES.length
   simp at this
   omega
  have ep:=Mi (d:=d) (tmps:=a.tmps) (m.ext hx) (e.ext hx) ((dV++news).toArray++Builtin.zeroCells zv.cells (grownCap w (xs.length+ys.length) cap el-(xs.length+ys.length))) el (xs++ys) sz (grownCap w (xs.length+ys.length) cap el) (dV++news)
   (by rw[List.flatMap_append];exact aM.append wI cH) (by
    intro j v hj
    rw[Array.getElem?_append_left (by simpa using(Ha.1 hj).1)]
    simpa using hj) (by
    intro v hv
    rcases N2.1 hv with hv|hv
    ·exact ER v hv
    ·exact cI v hv) (by
    intro x hx
    rcases N2.1 hx with hx|hx
    ·exact nW x hx
    ·exact fi x hx) (by rw[Sz];exact ub) (by
    have ho:=wI.length
    rw[lb xs nW]at ho
    simp[Builtin.zeroCells,gJ,ho,mE]
    rw[←Sd,←Sd]
    exact St _ (by omega)) (kg env x')
  rw[Sz]at ep
  exact ep
 rcases rx.cG with⟨rfl,rfl,hx⟩|⟨rfl,r,q,cap,hx,hle,cL⟩|⟨rfl,rfl,ad,lO,hx⟩
 rotate_right
 ·exact absurd (q4z e h1 (by rcases cB with h|h<;>first|cases h|exact h) e1 hx) lO
 ·-- nil
  cases ys with
  |nil=>
   have:news=[]:=by cases cH;rfl
   subst this
   refine⟨.slice E3 0 0,w,et ?_,C,ω,ay.le_refl C,m,e.strip _,by simpa[pw]using qp.iH 0,fun _=>trivial⟩
   rw[hx]
   exact ql7 ht hi _ (jL▸hs)
  |cons y1 ys1=>
   have:=grow E3 0 [] hx (by simp) (fun w' _=>run_firstCells_none w' _ _ _ _) .nil (by simp) (by simp)
   simpa[pw]using this
 ·-- own
  rw[show pw E6 sz xs ys=.list E6 sz (xs++ys)from rfl]
  have ET:(kg env x').isSome=En:=by rcases cB with h|h<;>first|cases h|exact h
  obtain⟨s,gA⟩:=N3.1 ET
  obtain⟨fg,v0,hl⟩:=EQ gA
  obtain rfl:sz=cJ:=by rcases zj with h|⟨_,h⟩<;>first|exact h|cases h
  have fF:v0=.list E6 sz xs:=by
   subst fg
   simp only[zd,hl]at e1
   exact I.inj e1
  subst fF
  obtain⟨cv,wH,Mm,zc⟩:=e s _ hl
  have nU:cv=.slice (I ⟨r,q,E3⟩) xs.length cap:=by
   have ib:zr x=I (.tmp s):=by rw[h1,fg]
   cases x with
   |tmp t'=>
    simp only[zr]at ib
    cases ib
    have:a.eval (.tmp s)=cv:=by simp[Act.eval,Gm,wH]
    rw[←this,hx]
   |const u=>simp only[zr]at ib;split at ib<;>cases ib
   |func f=>simp[zr]at ib
   |global g=>simp[zr]at ib
  subst nU
  obtain⟨hω,hB,hβ,_,Mn,⟨cells,te,hg,b8,_⟩,hK⟩:=zc rfl
  simp only at hω hB hβ hg b8 hK
  obtain⟨dV,EU,ho2⟩:=bY.vals cL.cells
  have nW:=cL.sized
  by_cases dN:xs.length+ys.length≤cap
  ·-- there is room
   have fX:(xs.length+ys.length)*sz≤cap*sz:=St _ dN
   rw[Sd]at fX
   have bp:=So (P:=P) (w:=w) (ty:=o.type) ht hi r q xs.length cap (a.eval y) ys.length news (jL▸hs) dN hg (by rw[jL,mE];omega)
   rw[←hx]at bp
   obtain⟨m',e',cz⟩:=qw2 (d:=d) (tmps:=a.tmps) m e (r:=r) (q:=q+xs.length*sz) (news:=news) hω hB hβ hg (by rw[mE];omega) hK cI
   rw[jL]at bp
   rw[gA]
   refine⟨_,_,et bp,_,_,cz,m',e',?_,?_⟩
   ·have pI:aY (C.put r (q+xs.length*sz) news) r sz (xs++ys) q:=aY.append (qp.mono cz cL) (aY.ej (ay.eF hK cH) fi)
    have:=qp.list sz (xs++ys) r q cap (by simpa using dN) pI
    simpa using this
   ·intro _
    have hall:∀x∈xs++ys,x.flat.length=sz:=fun x hx=>by
     rcases N2.1 hx with hx|hx
     ·exact nW x hx
     ·exact fi x hx
    refine⟨by simp[cr],hB,hβ,rfl,Mn,⟨_,te,setRow_heap w r cells _ te (0,0) hg,?_,ek.sized hall⟩,?_⟩
    ·simp;omega
    ·intro p hp
     rw[Sd]at hp
     simp only[ay.put]
     simp only at hp
     rw[if_neg (by rw[mE];omega)]
     exact hK p (by omega)
  ·-- there is none
   have fW:∀v∈dV,v.oneCell'=En:=fun v hv=>by
    obtain⟨j,hj⟩:=N0 hv
    exact m.cQ _ _ _ (ho2 j v hj)
   have Sp:dV.length=xs.length*i.size:=by rw[EU.length,lb xs nW,jL]
   have:=grow (I ⟨r,q,E3⟩) cap dV hx (by omega) (fun w' Sn=>run_firstCells_some w' _ _ _ _ _ dV Sp (fun j v hj=>by
    subst Sn
    rw[add_lit]
    have:=m.know _ _ _ (ho2 j v hj)
    simpa using this)) EU fW nW
   simpa using this
end
structure jk (w w':World)(r:Nat):Prop where
 size:w'.heap.size=w.heap.size
 other:∀k,k≠r→w'.heap[k]?=w.heap[k]?
 fz:∀c t fr,w'.heap[r]?=I (.cells c t fr)→fr=(0,0)
 os:w'.os=w.os
 output:w'.output=w.output
theorem jm.ia {w w':World}{r:Nat}{cs:Array Value}(h:jm w w' r cs):jk w w' r:=
 ⟨h.size,h.other,fun c t fr hc=>by obtain⟨t',ht⟩:=h.at_;rw[ht]at hc;cases hc;rfl,h.os,h.output⟩
section
variable {P:Program}{C C0:ay}{ω:Nat→Option Loc}{w w' w0:World}{hp:j8}{env:Env}{a:Act}{o:Oper}{tmps:Array Value}{d:Loc}
theorem aF.de {B b r:Nat}{ℓ:Loc}{x:qa}{v:Value}(hu:jk w w' r)(hb:C.β b=I r)(ho:aF C ω w B ℓ x v):aF C ω w' B ℓ x v:=by
 unfold aF at *
 split at ho
 ·obtain⟨h1,h2,h3,h4,h8,⟨cells,elem,h5,h6⟩,h7⟩:=ho
  refine⟨h1,h2,h3,h4,h8,⟨cells,elem,?_,h6⟩,h7⟩
  rw[hu.other _ (fun h=>h3 b (by rw[h];exact hb))]
  exact h5
 ·obtain⟨h1,h2,h3,h4,h8,⟨cells,elem,h5,h6⟩,h7⟩:=ho
  refine⟨h1,h2,h3,h4,h8,⟨cells,elem,?_,h6⟩,h7⟩
  rw[hu.other _ (fun h=>h3 b (by rw[h];exact hb))]
  exact h5
 ·trivial
theorem aj.de {B b r:Nat}(hu:jk w w' r)(hb:C.β b=I r)(e:aj C ω w B env tmps):aj C ω w' B env tmps:=
 fun s x hx=>let ⟨v,h1,h2,h3⟩:=e s x hx; ⟨v,h1,h2,fun h=>(h3 h).de hu hb⟩
theorem bn.de {B b b' r r':Nat}{x:qn}(hu:jk w w' r)(hb:C.β b=I r)(bw:r'≠r)(h:bn P C ω w B b' r' x):bn P C ω w' B b' r' x:=by
 have hg:=hu.other r' bw
 cases x with
 |hole=>exact h
 |cells dQ=>
  obtain⟨vs,elem,h1,h2,h3⟩:=h
  exact⟨vs,elem,by rw[hg];exact h1,h2,fun j c hc=>let ⟨v,a,q,b,d⟩:=h3 j c hc; ⟨v,a,q,b,fun e=>(d e).de hu hb⟩⟩
 |map es=>obtain⟨bP,clock,h1,h2⟩:=h;exact⟨bP,clock,by rw[hg];exact h1,h2⟩
 |iter s pos=>show w'.heap[r']?=_;rw[hg];exact h
 |loop l=>obtain⟨lp,h1,h2⟩:=h;exact⟨lp,by rw[hg];exact h1,h2⟩
 |fB t e l=>obtain⟨p,v,h1,h2,h3,h4⟩:=h;exact⟨p,v,by rw[hg];exact h1,h2,h3,h4.de hu hb⟩
 |dead=>obtain⟨cs,t,h1⟩:=h;exact⟨cs,t,by rw[hg];exact h1⟩
 |vec sz bu xs=>exact dC.imp (fun _ _ _ h=>h) (fun _ h=>h) (fun _ h _=>h) hg (fun q n cap k=>⟨hu.other q (fun hq=>k.2.2.1 b (by rw[hb];exact congrArg I hq.symm)),k.de hu hb⟩) h
theorem av.du {ω':Nat→Option Loc}(m:av P C ω w0 C0 hp w){b r:Nat}(hu:jk w w' r)(hb:C.β b=I r)(x':qn)(hω:∀b' j y v,b'≠b→aF C ω w w0.heap.size (.cell b' j) y v→aF C ω' w w0.heap.size (.cell b' j) y v)
  (fY:bn P C ω' w' w0.heap.size b r x'):av P C ω' w0 C0 (hp.set b x') w':=by
 have hfr:=m.fresh b r hb
 have Db:w.heap[r]?≠I (.deferred (I [])):=by
  obtain⟨x,hx⟩:=Hd (m.lt b r hb).2▸(⟨_,rfl⟩:∃x,I (hp[b]'(m.lt b r hb).2)=I x)
  have h0:=m.box b x r hx hb
  intro h
  cases x with
  |hole=>exact h0
  |cells cs=>obtain⟨vs,elem,h1,_⟩:=h0;rw[h]at h1;cases h1
  |map es=>obtain⟨bP,clock,h1,_⟩:=h0;rw[h]at h1;cases h1
  |iter s pos=>have h1:w.heap[r]?=_:=h0;rw[h]at h1;cases h1
  |loop l=>obtain⟨lp,h1,_⟩:=h0;rw[h]at h1;cases h1
  |fB t e l=>obtain⟨p,v,h1,_⟩:=h0;rw[h]at h1;cases h1
  |dead=>obtain⟨cs,t,h1⟩:=h0;rw[h]at h1;cases h1
  |vec sz bu xs=>obtain⟨_,_,_,_,_,_,cs,t,h1⟩:=h0;rw[h]at h1;cases h1
 refine { base:=m.base,know:=?_,cQ:=m.cQ,apart:=m.apart,inj:=m.inj,lt:=?_,size:=?_,frame:=?_,eK:=?_,os:=hu.os.trans m.os,output:=hu.output.trans m.output,fresh:=m.fresh,grown:=m.grown,old:=m.old,box:=?_,gV:=fun q hq=>by rw[hu.size];exact m.gV q hq }
 ·intro k p v hk
  have bw:k≠r:=fun h=>by rw[h,m.apart b r p hb]at hk;cases hk
  have hc:=m.know _ _ _ hk
  simp only[World.cell?]at hc ⊢
  rw[hu.other k bw]
  exact hc
 ·intro k p hk
  rw[hu.size,R6];exact m.lt k p hk
 ·rw[hu.size];exact m.size
 ·intro k hk hn hw
  by_cases gK:k=r
  ·subst gK
   rcases hfr with h|h|h
   ·exact absurd h (hn b)
   ·omega
   ·exact absurd h hw
  ·rw[hu.other k gK];exact m.frame k hk hn hw
 ·intro k hk
  have gK:k≠r:=fun h=>Db (h▸m.eK k hk)
  rw[hu.other k gK];exact m.eK k hk
 ·intro k x p hx hk
  by_cases lh:k=b
  ·subst lh
   rw[hb]at hk
   cases hk
   rw[Mx (m.lt k _ hb).2]at hx
   cases hx
   exact fY
  ·rw[N1 (Ne.symm lh)]at hx
   have tW:p≠r:=fun h=>lh (m.inj k b p hk (h▸hb))
   have h0:=m.box k x p hx hk
   exact((h0.de hu hb tW).mono (ω':=ω') (ay.le_refl C) (fun j y v ho=>by
    have:=hω k j y v lh
    -- the ownerships of other boxes,in the new world
    unfold aF at ho this ⊢
    split at ho
    ·obtain⟨h1,h2,h3,h4,h8,⟨cells,elem,h5,h6⟩,h7⟩:=ho
     rename_i ad len cap
     have lf:ad.block≠r:=fun h=>h3 b (h▸hb)
     rw[hu.other _ lf]at h5
     obtain⟨k1,_⟩:=this ⟨h1,h2,h3,h4,h8,⟨cells,elem,h5,h6⟩,h7⟩
     exact⟨k1,h2,h3,h4,h8,⟨cells,elem,by rw[hu.other _ lf];exact h5,h6⟩,h7⟩
    ·obtain⟨h1,h2,h3,h4,h8,⟨cells,elem,h5,h6⟩,h7⟩:=ho
     rename_i ad
     have lf:ad.block≠r:=fun h=>h3 b (h▸hb)
     rw[hu.other _ lf]at h5
     obtain⟨k1,_⟩:=this ⟨h1,h2,h3,h4,h8,⟨cells,elem,h5,h6⟩,h7⟩
     exact⟨k1,h2,h3,h4,h8,⟨cells,elem,by rw[hu.other _ lf];exact h5,h6⟩,h7⟩
    ·trivial))
theorem bn.read {B b r off n:Nat}{cs:List (qa×Bool)}{us:List qa}(h:bn P C ω w B b r (.cells cs))(hl:y9 cs off n=I us):
  ∃vs,aM C us vs∧us.length=n∧vs.length=n∧(∀j v,vs[j]?=I v→w.cell? ⟨r,off+j,E3⟩=I v)∧∀v∈vs,v.oneCell'=En:=by
 unfold y9 at hl
 cases hb:Nat.ble (off+n) cs.length with
 |false=>simp[hb]at hl
 |true=>
  simp only[hb,cT,I.injEq]at hl
  subst hl
  have hle:=Sg hb
  obtain⟨vs,elem,h1,h2,h3⟩:=h
  have key:∀(n off:Nat),off+n≤cs.length→∃ws:List Value,aM C (((cs.drop off).take n).map (·.1)) ws∧ws.length=n∧∀j v,ws[j]?=I v→vs[off+j]?=I v∧v.oneCell'=En:=by
   intro n
   induction n with
   |zero=>intro off _;exact⟨[],by simpa using qp.nil,rfl,by simp⟩
   |succ n ih=>
    intro off hle
    obtain⟨ws,i1,i2,i3⟩:=ih (off+1) (by omega)
    have aX:off<cs.length:=by omega
    obtain⟨v,j1,j2,j3,_⟩:=h3 off cs[off] (Hd aX)
    refine⟨v::ws,?_,by simp[i2],?_⟩
    ·rw[List.drop_eq_getElem_cons aX]
     exact .cons _ _ _ _ j3 i1
    ·intro j u hj
     cases j with
     |zero=>simp at hj;subst hj;exact⟨j1,j2⟩
     |succ j=>simp at hj;rw[show off+(j+1)=off+1+j from by omega];exact i3 j u hj
  obtain⟨ws,k1,k2,k3⟩:=key n off hle
  refine⟨ws,k1,by simp;omega,k2,?_,?_⟩
  ·intro j v hj
   have:=(k3 j v hj).1
   simp[World.cell?,h1,this]
  ·intro v hv
   obtain⟨j,hj⟩:=N0 hv
   exact(k3 j v hj).2
theorem EV {t:TypeId}{n r off:Nat}{vs:List Value}(hg:fb P t=I En)(hn:yg P t=I n)(hl:vs.length=n)(hc:∀j v,vs[j]?=I v→w.cell? ⟨r,off+j,E3⟩=I v):
  (loadVar t ⟨r,off,E3⟩).run P w=.ok (.agg ⟨vs⟩) w:=by
 have:=run_loadCells_list (P:=P) w ⟨r,off,E3⟩ vs (fun j v hj=>by rw[add_lit];exact hc j v hj)
 rw[hl]at this
 simp[loadVar,C9 hg,iJ hn,this]
theorem EW {t:TypeId}{r off:Nat}{v:Value}(hg:fb P t=I E6)(hc:w.cell? ⟨r,off,E3⟩=I v):(loadVar t ⟨r,off,E3⟩).run P w=.ok v w:=by
 simp[loadVar,C9 hg,hc]
theorem Sr (m:av P C ω w0 C0 hp w)(he:aW C env a.tmps){t:TypeId}{x:Operand}{x':qh}{n:Nat}{ag:Bool}{p v:qa}(ho:o.op=.load t x)(hg:fb P t=I ag)(hn:yg P t=I n)(EX:ag=E6→n=1)(h1:zr x=I x')(e1:zd env x'=I p)
  (hv:(∃b q cs us,p=.ptr b q∧yl hp b=I cs∧y9 cs q n=I us∧((ag=En∧v=.agg us)∨(ag=E6∧us=[v])))∨(p=.ah v∧Bool.xor ag v.isAgg=E6∧v.flat.length=n)):Val P C a o w v:=by
 rcases hv with⟨b,q,cs,us,rfl,kI,hl,hv⟩|⟨rfl,hx,vd⟩
 ·obtain⟨r,hr,hq⟩:=(zu he h1 e1).cU
  have fZ:hp[b]?=I (.cells cs):=by
   unfold yl at kI
   split at kI
   ·rename_i dQ h;cases kI;exact h
   ·cases kI
  obtain⟨vs,k1,_,k2,k3,_⟩:=(m.box b _ r fZ hr).read hl
  rcases hv with⟨rfl,rfl⟩|⟨rfl,rfl⟩
  ·exact⟨.agg ⟨vs⟩,by simp[execOp,ho,Instr.loadAt,hq,Instr.sureAddr,EV hg hn k2 k3],.agg _ _ k1⟩
  ·cases k1 with
   |cons _ _ u us hu jJ=>
    cases jJ
    refine⟨u,?_,hu⟩
    have:=EW (P:=P) hg (by simpa using k3 0 u rfl)
    simp[execOp,ho,Instr.loadAt,hq,Instr.sureAddr,this]
 ·obtain⟨r,q,hq,hc⟩:=(zu he h1 e1).en
  obtain⟨vs,k1,k2⟩:=bY.vals hc
  have hl:vs.length=n:=by rw[k1.length,vd]
  have k3:∀j u,vs[j]?=I u→w.cell? ⟨r,q+j,E3⟩=I u:=fun j u hj=>m.know _ _ _ (k2 j u hj)
  cases ag with
  |true=>
   cases v<;>simp[qa.isAgg]at hx
   exact⟨.agg ⟨vs⟩,by simp[execOp,ho,Instr.loadAt,hq,Instr.sureAddr,EV hg hn hl k3],.agg _ _ k1⟩
  |false=>
   rw[qcf (by simpa using hx)]at k1
   cases k1 with
   |cons _ _ u us hu jJ=>
    cases jJ
    refine⟨u,?_,hu⟩
    have:=EW (P:=P) hg (by simpa using k3 0 u rfl)
    simp[execOp,ho,Instr.loadAt,hq,Instr.sureAddr,this]
def ay.box (C:ay)(b r:Nat):ay:={ C with β:=fun k=>if k=b then I r else C.β k }
theorem ay.jM {b r:Nat}(h:C.β b=E3):C.le (C.box b r):=
 ⟨fun _ _ _ h=>h,fun k p hk=>by
  simp only[ay.box]
  rw[if_neg (fun hb=>by rw[hb,h]at hk;cases hk)]
  exact hk,rfl,fun _ h=>h,fun _ h=>h⟩
theorem aF.box {B b r:Nat}{ℓ:Loc}{x:qa}{v:Value}(hr:w.heap.size≤r∨ω r≠I ℓ)(ho:aF C ω w B ℓ x v):aF (C.box b r) ω w B ℓ x v:=by
 unfold aF at *
 split at ho
 ·rename_i ad len cap
  obtain⟨h1,h2,h3,h4,h8,⟨cells,elem,h5,h6⟩,h7⟩:=ho
  have aX:ad.block<w.heap.size:=(G2.1 h5).1
  refine⟨h1,h2,fun k hk=>?_,h4,h8,⟨cells,elem,h5,h6⟩,h7⟩
  simp only[ay.box]at hk
  split at hk
  ·have gX:r=ad.block:=I.inj hk
   rcases hr with hr|hr
   ·omega
   ·exact hr (gX▸h1)
  ·exact h3 k hk
 ·rename_i ad
  obtain⟨h1,h2,h3,h4,h8,⟨cells,elem,h5,h6⟩,h7⟩:=ho
  have aX:ad.block<w.heap.size:=(G2.1 h5).1
  refine⟨h1,h2,fun k hk=>?_,h4,h8,⟨cells,elem,h5,h6⟩,h7⟩
  simp only[ay.box]at hk
  split at hk
  ·have gX:r=ad.block:=I.inj hk
   rcases hr with hr|hr
   ·omega
   ·exact hr (gX▸h1)
  ·exact h3 k hk
 ·trivial
theorem li {h0 rk:Nat}{x:qn}{h':j8}(h:aJ h0 hp rk x=I h'):hp[h0+rk]?=I .hole∧h'=hp.set (h0+rk) x:=by
 unfold aJ at h
 split at h
 ·rename_i hh;cases h;exact⟨hh,rfl⟩
 ·cases h
theorem EY (m:av P C ω w0 C0 hp w){b:Nat}(h:hp[b]?=I .hole):C.β b=E3:=by
 cases hb:C.β b with
 |none=>rfl
 |some r=>exact(m.box b .hole r h hb).elim
theorem av.aJ (m:av P C ω w0 C0 hp w)(e:aj C ω w w0.heap.size env tmps){b:Nat}(hh:hp[b]?=I .hole)(obj:Obj)(Ss:∀c t fr,obj=.cells c t fr→fr=(0,0))(x:qn)
  (fY:∀C' ω' w',C.le C'→w'.heap[w.heap.size]?=I obj→bn P C' ω' w' w0.heap.size b w.heap.size x):
  av P (C.box b w.heap.size) ω w0 C0 (hp.set b x) (w.alloc obj)∧aj (C.box b w.heap.size) ω (w.alloc obj) w0.heap.size env tmps∧C.le (C.box b w.heap.size):=by
 have hx:Ext w (w.alloc obj):=Ext.alloc w obj Ss
 have hβ:=EY m hh
 have hle:=ay.jM (C:=C) (r:=w.heap.size) hβ
 have m':=m.ext hx
 have aX:b<hp.length:=(Ha.1 hh).1
 refine⟨{ m' with apart:=?_,inj:=?_,lt:=?_,fresh:=?_,grown:=ay.le_trans m.grown hle,box:=?_ },?_,hle⟩
 ·intro k r q hk
  simp only[ay.box]at hk
  split at hk
  ·cases hk;exact m.iV _ (Gn _) q
  ·exact m.apart k r q hk
 ·intro k k' r hk eu
  simp only[ay.box]at hk eu
  split at hk<;>split at eu
  ·rename_i h1 h2;rw[h1,h2]
  ·cases hk;have:=(m.lt k' _ eu).1;omega
  ·cases eu;have:=(m.lt k _ hk).1;omega
  ·exact m.inj k k' r hk eu
 ·intro k r hk
  rw[R6]
  simp only[ay.box]at hk
  split at hk
  ·rename_i h1;cases hk;subst h1;exact⟨by rw[World.size_alloc];omega,aX⟩
  ·have:=m.lt k r hk;exact⟨by rw[World.size_alloc];omega,this.2⟩
 ·intro k r hk
  simp only[ay.box]at hk
  split at hk
  ·cases hk;exact .inr (.inl m.size)
  ·exact m.fresh k r hk
 ·intro k y r hy hk
  simp only[ay.box]at hk
  split at hk
  ·rename_i h1
   subst h1
   cases hk
   rw[Mx aX]at hy
   cases hy
   exact fY _ _ _ hle (by rw[u0,if_pos rfl])
  ·rename_i h1
   rw[N1 (Ne.symm h1)]at hy
   exact((m.box k y r hy hk).mono (ω':=ω) hle fun j z v ho=>ho.box (.inl (Gn _))).ext hx
 ·exact fun s y hy=>let ⟨v,h1,h2,h3⟩:=e s y hy; ⟨v,h1,qp.mono hle h2,fun h=>((h3 h).box (.inl (Gn _))).ext hx⟩
theorem aF.EZ {B b r:Nat}{ℓ:Loc}{x:qa}{v:Value}(hr:∀cs t fr,w.heap[r]?≠I (.cells cs t fr))(ho:aF C ω w B ℓ x v):aF (C.box b r) ω w B ℓ x v:=by
 unfold aF at *
 split at ho
 ·rename_i ad len cap
  obtain⟨h1,h2,h3,h4,h8,⟨cells,elem,h5,h6⟩,h7⟩:=ho
  refine⟨h1,h2,fun k hk=>?_,h4,h8,⟨cells,elem,h5,h6⟩,h7⟩
  simp only[ay.box]at hk
  split at hk
  ·have gX:r=ad.block:=I.inj hk
   exact absurd (gX▸h5) (hr _ _ _)
  ·exact h3 k hk
 ·rename_i ad
  obtain⟨h1,h2,h3,h4,h8,⟨cells,elem,h5,h6⟩,h7⟩:=ho
  refine⟨h1,h2,fun k hk=>?_,h4,h8,⟨cells,elem,h5,h6⟩,h7⟩
  simp only[ay.box]at hk
  split at hk
  ·have gX:r=ad.block:=I.inj hk
   exact absurd (gX▸h5) (hr _ _ _)
  ·exact h3 k hk
 ·trivial
theorem av.E0 (m:av P C ω w0 C0 hp w)(e:aj C ω w w0.heap.size env tmps){b q:Nat}{es:List (qa×qa)}{bP:Array MapEntry}{clock:Nat}(hh:hp[b]?=I .hole)(hg:w.heap[q]?=I (.map bP clock))(hq:∀k,C.β k≠I q)(hb:w0.heap.size≤q)(hr:qz C es bP.toList):
  av P (C.box b q) ω w0 C0 (hp.set b (.map es)) w∧aj (C.box b q) ω w w0.heap.size env tmps∧C.le (C.box b q):=by
 have hβ:=EY m hh
 have hle:=ay.jM (C:=C) (r:=q) hβ
 have aX:b<hp.length:=(Ha.1 hh).1
 have kJ:∀cs t fr,w.heap[q]?≠I (.cells cs t fr):=fun cs t fr h=>by rw[hg]at h;cases h
 refine⟨{ m with apart:=?_,inj:=?_,lt:=?_,fresh:=?_,grown:=ay.le_trans m.grown hle,box:=?_ },?_,hle⟩
 ·intro k r o hk
  simp only[ay.box]at hk
  split at hk
  ·cases hk
   show C.K q o=E3
   cases hK:C.K q o with
   |none=>rfl
   |some v=>
    have:=m.know q o v hK
    simp[World.cell?,hg]at this
  ·exact m.apart k r o hk
 ·intro k k' r hk eu
  simp only[ay.box]at hk eu
  split at hk<;>split at eu
  ·rename_i h1 h2;rw[h1,h2]
  ·cases hk;exact absurd eu (hq k')
  ·cases eu;exact absurd hk (hq k)
  ·exact m.inj k k' r hk eu
 ·intro k r hk
  rw[R6]
  simp only[ay.box]at hk
  split at hk
  ·rename_i h1;cases hk;subst h1;exact⟨(G2.1 hg).1,aX⟩
  ·exact m.lt k r hk
 ·intro k r hk
  simp only[ay.box]at hk
  split at hk
  ·cases hk;exact .inr (.inl hb)
  ·exact m.fresh k r hk
 ·intro k y r hy hk
  simp only[ay.box]at hk
  split at hk
  ·rename_i h1
   subst h1
   cases hk
   rw[Mx aX]at hy
   cases hy
   exact⟨bP,clock,hg,hr.mono hle⟩
  ·rename_i h1
   rw[N1 (Ne.symm h1)]at hy
   exact(m.box k y r hy hk).mono (ω':=ω) hle fun j z v ho=>ho.EZ kJ
 ·exact fun s y hy=>let ⟨v,h1,h2,h3⟩:=e s y hy; ⟨v,h1,qp.mono hle h2,fun h=>(h3 h).EZ kJ⟩
theorem Sv {xs:List qa}{vs:List Value}{t:TypeId}{B b r:Nat}{cells:Array Value}(hr:aM C xs vs)(hs:∀x∈xs,ze x=En)(hv:∀(j:Nat) v,vs[j]?=I v→cells[j]?=I v)(hl:xs.length≤cells.size):
  ∀C' ω' w',C.le C'→w'.heap[r]?=I (.cells cells t (0,0))→bn P C' ω' w' B b r (.cells (cellsOf xs)):=by
 intro C' ω' w' hle hg
 refine⟨cells,t,hg,by simpa[cellsOf]using hl,?_⟩
 intro j c hc
 simp only[cellsOf,S7,Option.map_eq_some_iff]at hc
 obtain⟨x,hx,rfl⟩:=hc
 obtain⟨v,h1,h2⟩:=hr.get hx
 exact⟨v,hv j v h1,Sm h2 (hs x (Nh hx)),qp.mono hle h2,by simp⟩
theorem jc4 (m:av P C ω w0 C0 hp w)(e:aj C ω w w0.heap.size env a.tmps){t:TypeId}{z:List qa}{h0 rk:Nat}{h':j8}(ho:o.op=.alloc t)(hz:ef P t=I z)(hs:∀x∈z,ze x=En)(hn:aJ h0 hp rk (.cells (cellsOf z))=I h'):
  ∃v w',(execOp a.eval o).run P w=.ok (.value v) w'∧kf P C0 w0 C a.tmps d env ⟨.ptr (h0+rk) 0,E6,E3,h'⟩ v w':=by
 obtain⟨hh,rfl⟩:=li hn
 obtain⟨_,zv,kG,cw,kY⟩:=tZ (C:=C) hz
 obtain⟨m',e',hle⟩:=m.aJ e hh (.cells zv.cells t) (fun c t fr h=>by cases h;rfl) (.cells (cellsOf z)) (Sv cw hs (fun j v h=>by simpa using h) (by have:=cw.length;simp at this;omega))
 refine⟨.pointer (I ⟨w.heap.size,0,E3⟩),_,?_,_,_,hle,m',e',.ptr _ _ _ (by simp[ay.box]),by simp⟩
 simp[execOp,ho,Instr.alloc,kG,newVar,newRow]
theorem jlh (m:av P C ω w0 C0 hp w)(e:aj C ω w w0.heap.size env a.tmps){t:TypeId}{x:Operand}{x':qh}{v:qa}{h0 rk:Nat}{h':j8}(ho:o.op=.box t x)(h1:zr x=I x')(e1:zd env x'=I v)(hs:v.flat.all ze=En)
  (hn:aJ h0 hp rk (.cells (cellsOf v.flat))=I h'):
  ∃v w',(execOp a.eval o).run P w=.ok (.value v) w'∧kf P C0 w0 C a.tmps d env ⟨.ptr (h0+rk) 0,E6,E3,h'⟩ v w':=by
 obtain⟨hh,rfl⟩:=li hn
 have hr:=yV (zu e.bT h1 e1) hs
 obtain⟨m',e',hle⟩:=m.aJ e hh (.cells (a.eval x).cells t) (fun c t fr h=>by cases h;rfl) (.cells (cellsOf v.flat)) (Sv hr (by simpa using hs) (fun j v h=>by simpa using h) (by have:=hr.length;simp at this;omega))
 refine⟨.pointer (I ⟨w.heap.size,0,E3⟩),_,?_,_,_,hle,m',e',.ptr _ _ _ (by simp[ay.box]),by simp⟩
 simp[execOp,ho,Instr.box,newVar,newRow]
theorem jfq (m:av P C ω w0 C0 hp w)(e:aj C ω w w0.heap.size env a.tmps){t:TypeId}{x:Operand}{x':qh}{v:qa}(ho:o.op=.box t x)(h1:zr x=I x')(e1:zd env x'=I v)(hs:v.flat.all ze=En):
  ∃u w',(execOp a.eval o).run P w=.ok (.value u) w'∧kf P C0 w0 C a.tmps d env ⟨.ah v,E6,E3,hp⟩ u w':=by
 have hr:=yV (zu e.bT h1 e1) hs
 have hx:Ext w (w.alloc (.cells (a.eval x).cells t)):=Ext.alloc w _ (fun c t fr h=>by cases h;rfl)
 have hn:∀o,0≤o→C.K w.heap.size o=E3:=fun o _=>m.iV _ (Gn _) o
 have m':=m.newRow (a.eval x).cells t (a.eval x).cells.toList (fun j v h=>by simpa using h) (yX hr (fun y hy=>Tb.1 hs y hy))
 refine⟨.pointer (I ⟨w.heap.size,0,E3⟩),_,?_,_,ω,ay.fV _ hn,m',(e.put _ (.inl (Gn _)) hn).ext hx,.ah _ _ _ (ay.eF hn hr),by simp⟩
 simp[execOp,ho,Instr.box,newVar,newRow]
theorem jly (m:av P C ω w0 C0 hp w)(e:aj C ω w w0.heap.size env a.tmps){t:TypeId}{e' sz:Nat}{h0 rk:Nat}{h':j8}(ho:o.op=.alloc t)(hz:ef P t=I [.bN,.list En sz []])(hn:aJ h0 hp rk (.fB t e' [])=I h'):
  ∃v w',(execOp a.eval o).run P w=.ok (.value v) w'∧kf P C0 w0 C a.tmps d env ⟨.ptr (h0+rk) 0,E6,E3,h'⟩ v w':=by
 obtain⟨hh,rfl⟩:=li hn
 obtain⟨_,zv,kG,cw,kY⟩:=tZ (C:=C) hz
 have hzc:zv.cells=#[.pointer E3,.slice E3 0 0]:=by
  apply Tk
  generalize zv.cells.toList=vs at cw
  cases cw with
  |cons _ _ v vs h1 h2=>
   cases h2 with
   |cons _ _ u us h3 h4=>
    cases h4
    cases h1
    cases h3
    rfl
 obtain⟨m',e',hle⟩:=m.aJ e hh (.cells zv.cells t) (fun c t fr h=>by cases h;rfl) (.fB t e' []) (fun C' ω' w' _ hg=>⟨.pointer E3,.slice E3 0 0,by rw[hzc]at hg;exact hg,.inl rfl,.inl ⟨rfl,rfl⟩,trivial⟩)
 refine⟨.pointer (I ⟨w.heap.size,0,E3⟩),_,?_,_,_,hle,m',e',.ptr _ _ _ (by simp[ay.box]),by simp⟩
 simp[execOp,ho,Instr.alloc,kG,newVar,newRow]
theorem jcy (m:av P C ω w0 C0 hp w)(e:aj C ω w w0.heap.size env a.tmps){t:TypeId}{h0 rk:Nat}{h':j8}(ho:o.op=.makeMap t E3)(hn:aJ h0 hp rk (.map [])=I h'):
  ∃v w',(execOp a.eval o).run P w=.ok (.value v) w'∧kf P C0 w0 C a.tmps d env ⟨.map (h0+rk),E6,E3,h'⟩ v w':=by
 obtain⟨hh,rfl⟩:=li hn
 obtain⟨m',e',hle⟩:=m.aJ e hh (.map #[] 0) (fun c t fr h=>by cases h) (.map []) (fun C' ω' w' _ hg=>⟨#[],0,hg,.nil⟩)
 refine⟨.map (I w.heap.size),_,?_,_,_,hle,m',e',.map _ _ (by simp[ay.box]),by simp⟩
 simp[execOp,ho,Instr.makeMap]
theorem q7k (m:av P C ω w0 C0 hp w)(e:aj C ω w w0.heap.size env a.tmps){t:TypeId}{x:Operand}{x':qh}{s:List UInt8}{h0 rk:Nat}{h':j8}(ho:o.op=.range t x)(ht:P.underlying t=I .string)(h1:zr x=I x')(e1:zd env x'=I (.str s))(hn:aJ h0 hp rk (.iter s 0)=I h'):
  ∃v w',(execOp a.eval o).run P w=.ok (.value v) w'∧kf P C0 w0 C a.tmps d env ⟨.ptr (h0+rk) 0,E6,E3,h'⟩ v w':=by
 obtain⟨hh,rfl⟩:=li hn
 have hs:=(zu e.bT h1 e1).bW
 obtain⟨m',e',hle⟩:=m.aJ e hh (.stringIter ⟨⟨s⟩⟩ 0) (fun c t fr h=>by cases h) (.iter s 0) (fun C' ω' w' _ hg=>hg)
 refine⟨.pointer (I ⟨w.heap.size,0,E3⟩),_,?_,_,_,hle,m',e',.ptr _ _ _ (by simp[ay.box]),by simp⟩
 simp[execOp,ho,Instr.range,run_underlying ht,hs]
end
section
variable {P:Program}{C C0:ay}{ω:Nat→Option Loc}{w w' w0:World}{hp:j8}{env:Env}{a:Act}{o:Oper}{tmps:Array Value}{d:Loc}
def uc (ω:Nat→Option Loc)(x:qa)(v:Value)(ℓ:Loc):Nat→Option Loc:=
 match x,v with
 | .list ..,.slice (I ad) _ _=>cr ω ad.block ℓ
 | .cE _,.pointer (I ad)=>cr ω ad.block ℓ
 |_,_=>ω
theorem wJ {B:Nat}{ℓ0 ℓ ℓ':Loc}{x z:qa}{cv u:Value}(h0:aF C ω w B ℓ0 x cv)(bw:ℓ≠ℓ0)(hz:aF C ω w B ℓ z u):aF C (uc ω x cv ℓ') w B ℓ z u:=by
 unfold uc
 split
 ·rename_i ad l c
  have hω:ω ad.block=I ℓ0:=h0.1
  exact hz.other (.inl (by rw[hω];intro h;exact bw (I.inj h).symm))
 ·rename_i n ad
  have hω:ω ad.block=I ℓ0:=h0.1
  exact hz.other (.inl (by rw[hω];intro h;exact bw (I.inj h).symm))
 ·exact hz
theorem Mp {B:Nat}{ℓ0 ℓ':Loc}{x:qa}{cv:Value}(h0:aF C ω w B ℓ0 x cv):aF C (uc ω x cv ℓ') w B ℓ' x cv:=by
 unfold uc
 split
 ·exact⟨by simp[cr],h0.2⟩
 ·exact⟨by simp[cr],h0.2⟩
 ·rename_i h1 h2
  unfold aF
  split
  ·exact absurd rfl (h1 _ _ _ _ _ _ rfl)
  ·exact absurd rfl (h2 _ _ rfl)
  ·trivial
theorem vf {b:Nat}{cs:List (qa×Bool)}(h:yl hp b=I cs):hp[b]?=I (.cells cs):=by
 unfold yl at h
 split at h
 ·rename_i dQ h';cases h;exact h'
 ·cases h
theorem zo {b:Nat}{x:qn}{h':j8}(h:yj hp b x=I h'):h'=hp.set b x:=by
 unfold yj at h
 cases hb:Nat.blt b hp.length with
 |false=>simp[hb]at h
 |true=>simpa[hb]using h.symm
theorem bn.store {ω':Nat→Option Loc}{B b r off:Nat}{cs:List (qa×Bool)}{us:List qa}{news:List Value}{fl:List Bool}{vs:Array Value}{t:TypeId}(zz:fl.length=us.length)(hr:aM C us news)(h1:∀v∈news,v.oneCell'=En)
  (hl:off+us.length≤cs.length) (cD:cs.length≤vs.size) (hold:∀j c,cs[j]?=I c→∃v,vs[j]?=I v∧v.oneCell'=En∧bD C c.1 v∧(c.2=En→aF C ω' w' B (.cell b j) c.1 v))
  (cW:∀j u v,us[j]?=I u→news[j]?=I v→fl[j]?=I En→aF C ω' w' B (.cell b (off+j)) u v)
  (hg:w'.heap[r]?=I (.cells (vs.toList.take off++news++vs.toList.drop (off+news.length)).toArray t (0,0))):
  bn P C ω' w' B b r (.cells (cs.take off++us.zip fl++cs.drop (off+us.length))):=by
 have mE:=hr.length
 refine⟨_,t,hg,?_,?_⟩
 ·simp;omega
 ·intro j c hc
  rw[Mw]at hc
  have e1:(Tq off cs).length=off:=by simp;omega
  have e2:(us.zip fl).length=us.length:=by simp[zz]
  have f1:(Tq off vs.toList).length=off:=by simp;omega
  simp only[Mz,Mw]
  by_cases hj:j<off
  ·rw[Gk (by omega),H7 hj]at hc
   obtain⟨v,a1,a2,a3,a4⟩:=hold j c hc
   exact⟨v,by rw[Gk (by omega),H7 hj,Gq];exact a1,a2,a3,a4⟩
  ·rw[E4 (by omega),e1]at hc
   by_cases hj2:j<off+us.length
   ·rw[Gk (by omega)]at hc
    have dp:=List.getElem?_zip_eq_some.1 hc
    obtain⟨v,a1,a2⟩:=hr.get dp.1
    refine⟨v,by rw[E4 (by omega),f1,Gk (by omega)];exact a1,h1 v (Nh a1),a2,fun hf=>?_⟩
    have:=cW (j-off) c.1 v dp.1 a1 (by rw[dp.2,hf])
    rw[show off+(j-off)=j from by omega]at this
    exact this
   ·rw[E4 (by omega),e2,S1]at hc
    rw[show off+us.length+(j-off-us.length)=j from by omega]at hc
    obtain⟨v,a1,a2,a3,a4⟩:=hold j c hc
    exact⟨v,by rw[E4 (by omega),f1,E4 (by omega),S1,show off+news.length+(j-off-news.length)=j from by omega,Gq];exact a1,a2,a3,a4⟩
theorem jbx (us:List qa):us.zip (E2 us.length E6)=us.map (·,E6):=by
 induction us with
 |nil=>rfl
 |cons x us ih=>simp only[List.length_cons,Gp,List.zip_cons_cons,ih,Ts]
theorem q4i (m:av P C ω w0 C0 hp w)(e:aj C ω w w0.heap.size env tmps){b r off:Nat}{cs:List (qa×Bool)}{us:List qa}{news:List Value}(hb:hp[b]?=I (.cells cs))(hr:C.β b=I r)(gy:aM C us news)(h1:∀v∈news,v.oneCell'=En)(hl:off+us.length≤cs.length):
  ∃vs t,w.heap[r]?=I (.cells vs t (0,0))∧off+news.length≤vs.size ∧
   av P C ω w0 C0 (hp.set b (.cells (cs.take off++us.map (·,E6)++cs.drop (off+us.length)))) (w.setRow r (vs.toList.take off++news++vs.toList.drop (off+news.length)).toArray) ∧
   aj C ω (w.setRow r (vs.toList.take off++news++vs.toList.drop (off+news.length)).toArray) w0.heap.size env tmps:=by
 obtain⟨vs,t,hg,cD,hold⟩:=m.box b _ r hb hr
 have hu:=EN hg (vs.toList.take off++news++vs.toList.drop (off+news.length)).toArray
 have mE:=gy.length
 refine⟨vs,t,hg,by omega,m.du hu.ia hr _ (fun b' j y v _ h=>h) ?_,e.de hu.ia hr⟩
 rw[←jbx]
 refine bn.store (by simp) gy h1 hl cD (fun j c hc=>?_) (fun j u v _ _ hf=>?_) (setRow_heap w r vs _ t (0,0) hg)
 ·obtain⟨v,a1,a2,a3,a4⟩:=hold j c hc
  exact⟨v,a1,a2,a3,fun h=>(a4 h).de hu.ia hr⟩
 ·rw[List.getElem?_replicate]at hf;split at hf<;>cases hf
theorem Sw {t te:TypeId}{n r off:Nat}{v:Value}{vs:Array Value}(hn:yg P t=I n)(hl:v.cells.toList.length=n)(hg:w.heap[r]?=I (.cells vs te (0,0)))(b8:off+v.cells.toList.length≤vs.size)(h1:∀u∈v.cells.toList,u.oneCell'=En):
  (storeVar t ⟨r,off,E3⟩ v).run P w=.ok () (w.setRow r (vs.toList.take off++v.cells.toList++vs.toList.drop (off+v.cells.toList.length)).toArray):=by
 have bS:=run_storeCells_at (P:=P) r off te v.cells.toList 0 vs w hg (by simpa using b8) h1
 simp only[Nat.add_zero]at bS
 have:¬(v.cells.size≠n):=by simp at hl;simpa using hl
 simp only[storeVar,Sem.run_bind,iJ hn,Result.andThen_ok,this,if_false,Sem.run_ite,bS]
theorem jbp (m:av P C ω w0 C0 hp w)(e:aj C ω w w0.heap.size env a.tmps){t:TypeId}{x y:Operand}{x' y':qh}{n b q:Nat}{v:qa}{cs dQ:List (qa×Bool)}{h':j8}(ho:o.op=.store t x y)(hn:yg P t=I n)
  (h1:zr x=I x') (h2:zr y=I y') (e1:zd env x'=I (.ptr b q)) (e2:zd env y'=I v) (kI:yl hp b=I cs) (vd:v.flat.length=n) (bS:yi cs q v.flat=I dQ) (bm:yj hp b (.cells dQ)=I h'):
  ∃w',(execOp a.eval o).run P w=.ok .skip w'∧kf P C0 w0 C a.tmps d env ⟨.undef,E6,E3,h'⟩ undef w':=by
 obtain⟨r,hr,hq⟩:=(zu e.bT h1 e1).cU
 unfold yi at bS
 cases hb:(Nat.ble (q+v.flat.length) cs.length&&v.flat.all ze)with
 |false=>simp[hb]at bS
 |true=>
  simp only[hb,cT,I.injEq]at bS
  simp only[Ta]at hb
  subst bS
  have ry:=yV (zu e.bT h2 e2) hb.2
  have cI:=yX ry (by simpa using hb.2)
  obtain⟨vs,te,hg,b8,m',e'⟩:=q4i m e (vf kI) hr ry cI (Sg hb.1)
  obtain rfl:=zo bm
  have bp:=Sw (P:=P) hn (by rw[ry.length,vd]) hg b8 cI
  exact⟨_,by simp[execOp,ho,Instr.storeAt,hq,Instr.sureAddr,bp],C,ω,ay.le_refl C,m',e',.undef,by simp⟩
theorem q3o (m:av P C ω w0 C0 hp w)(e:aj C ω w w0.heap.size env a.tmps){t:TypeId}{x y:Operand}{x' y':qh}{b q s:Nat}{v:qa}{cs:List (qa×Bool)}{h':j8}(ho:o.op=.store t x y)(hn:yg P t=I 1)
  (h1:zr x=I x') (h2:zr y=I y') (e1:zd env x'=I (.ptr b q)) (e2:zd env y'=I v) (kI:yl hp b=I cs) (hv:v.cu=En) (aX:q<cs.length) (cB:kg env y'=I s) (bm:yj hp b (.cells (cs.set q (v,En)))=I h'):
  ∃w',(execOp a.eval o).run P w=.ok .skip w'∧kf P C0 w0 C a.tmps d env ⟨.undef,E6,I s,h'⟩ undef w':=by
 obtain⟨r,hr,hq⟩:=(zu e.bT h1 e1).cU
 have ry:=zu e.bT h2 e2
 obtain⟨zA,v0,hl⟩:=EQ cB
 have fF:v0=v:=by subst zA;simp only[zd,hl]at e2;exact I.inj e2
 subst fF
 have jA:v0.flat=[v0]:=by cases v0<;>simp[qa.cu]at hv<;>rfl
 have hsc:ze v0=En:=by cases v0<;>simp[qa.cu]at hv<;>rfl
 have rf:=yV ry (by rw[jA];simpa using hsc)
 rw[jA]at rf
 have cI:=yX rf (by simpa using hsc)
 have dB:(a.eval y).cells.toList=[a.eval y]:=by
  have:=Sm ry hsc
  cases hh:a.eval y<;>simp[hh,Value.oneCell']at this<;>rfl
 obtain⟨cv,wH,Mm,zc⟩:=e s _ hl
 have nU:a.eval y=cv:=by
  have zB:zr y=I (.tmp s):=by rw[h2,zA]
  cases y with
  |tmp t'=>simp only[zr]at zB;cases zB;simp[Act.eval,Gm,wH]
  |const u=>simp only[zr]at zB;split at zB<;>cases zB
  |func f=>simp[zr]at zB
  |global g=>simp[zr]at zB
 obtain⟨vs,te,hg,cD,hold⟩:=m.box b _ r (vf kI) hr
 have hu:=EN hg (vs.toList.take q++[a.eval y]++vs.toList.drop (q+1)).toArray
 have hZ:(a.eval y).cells.toList.length=1:=by rw[dB];rfl
 have bp:=Sw (P:=P) (t:=t) (off:=q) hn hZ hg (by omega) cI
 rw[hZ,dB]at bp
 obtain rfl:=zo bm
 have wK:=zc rfl
 have ny:∀ℓ z u,ℓ≠.slot s→aF C ω w w0.heap.size ℓ z u→aF C (uc ω v0 cv (.cell b q)) w w0.heap.size ℓ z u:=fun ℓ z u hℓ hz=>wJ wK hℓ hz
 have cW:aF C (uc ω v0 cv (.cell b q)) w w0.heap.size (.cell b q) v0 cv:=Mp wK
 have hcs:cs.take q++[(v0,En)]++cs.drop (q+1)=cs.set q (v0,En):=by
  rw[List.set_eq_take_append_cons_drop,if_pos aX];simp
 refine⟨w.setRow r (vs.toList.take q++[a.eval y]++vs.toList.drop (q+1)).toArray,by simp only[execOp,ho,Instr.storeAt,Sem.run_bind,hq,Instr.sureAddr,Sem.run_pure,Result.andThen_ok,bp],C,uc ω v0 cv (.cell b q),ay.le_refl C,?_,?_,.undef,by simp⟩
 ·refine m.du hu.ia hr _ (fun b' j z u eT hz=>ny _ z u (by simp) hz) ?_
  rw[←hcs]
  have hz:[(v0,En)]=[v0].zip [En]:=rfl
  rw[hz]
  refine bn.store (us:=[v0]) (fl:=[En]) (news:=[a.eval y]) rfl (by rw[←dB];exact rf) (by rw[←dB];exact cI) (by simp;omega) cD (fun j c hc=>?_) (fun j u v E1 pB _=>?_) (setRow_heap w r vs _ te (0,0) hg)
  ·obtain⟨v,a1,a2,a3,a4⟩:=hold j c hc
   exact⟨v,a1,a2,a3,fun h=>(ny _ _ _ (by simp) (a4 h)).de hu.ia hr⟩
  ·cases j with
   |zero=>
    simp at E1 pB
    subst E1;subst pB
    have h3:=cW.de hu.ia hr
    exact nU▸h3
   |succ j=>simp at E1
 ·intro t' x' fg
  by_cases lg:t'=s
  ·subst lg
   simp only[k9,hl,yd,Nat.beq_refl,cT]at fg
   cases fg
   exact⟨cv,wH,Mm,by simp⟩
  ·have ic:yd t' env=I x':=by
    simp only[k9,hl,yd]at fg
    have:Md s t'=E6:=by
     cases hb:Md s t' with
     |false=>rfl
     |true=>exact absurd (Gl hb).symm lg
    rw[this]at fg
    exact fg
   obtain⟨u,k1,k2,k3⟩:=e t' x' ic
   exact⟨u,k1,k2,fun h=>(ny _ _ _ (by simp[lg]) (k3 h)).de hu.ia hr⟩
end
section
variable {P:Program}{C C0:ay}{ω:Nat→Option Loc}{w w' w0:World}{hp:j8}{env:Env}{a:Act}{o:Oper}{tmps:Array Value}{d:Loc}
theorem q1i {s:Nat}{v:qa}{ow:Bool}(hl:yd s env=I (v,ow)){t:Nat}{x:qa×Bool}(hx:yd t (k9 env (I s))=I x):(t=s∧x=(v,E6))∨(t≠s∧yd t env=I x):=by
 simp only[k9,hl,yd]at hx
 cases hb:Md s t with
 |true=>
  simp only[hb,cT,I.injEq]at hx
  exact .inl ⟨(Gl hb).symm,hx.symm⟩
 |false=>
  simp only[hb,cond_false]at hx
  refine .inr ⟨fun h=>?_,hx⟩
  subst h
  simp at hb
theorem jdk (m:av P C ω w0 C0 hp w)(e:aj C ω w w0.heap.size env a.tmps){s:Nat}{v:qa}{ow:Bool}(ho:o.op=.move (.tmp s)∨o.op=.assign (.tmp s))(hl:yd s env=I (v,ow)):
  ∃u w',(execOp a.eval o).run P w=.ok (.value u) w'∧kf P C0 w0 C a.tmps d env ⟨v,ow,I s,hp⟩ u w':=by
 obtain⟨cv,h1,h2,h3⟩:=e s _ hl
 have gB:a.eval (.tmp s)=cv:=by simp[Act.eval,Gm,h1]
 have bp:(execOp a.eval o).run P w=.ok (.value cv) w:=by rcases ho with ho|ho<;>simp[execOp,ho,gB]
 refine⟨cv,w,bp,?_⟩
 by_cases hk:ow=En
 ·subst hk
  have cB:=h3 rfl
  refine⟨C,uc ω v cv d,ay.le_refl C,?_,?_,h2,fun _=>Mp cB⟩
  ·exact { m with box:=fun b x r hx hb=>(m.box b x r hx hb).mono (ay.le_refl C) fun j y u hz=>wJ cB (by simp) hz }
  ·intro t x hx
   rcases q1i hl hx with⟨rfl,rfl⟩|⟨bw,fg⟩
   ·exact⟨cv,h1,h2,by simp⟩
   ·obtain⟨u,k1,k2,k3⟩:=e t x fg
    exact⟨u,k1,k2,fun h=>wJ cB (by simpa using bw) (k3 h)⟩
 ·refine⟨C,ω,ay.le_refl C,m,e.strip _,h2,fun h=>absurd h hk⟩
theorem q3v (m:av P C ω w0 C0 hp w)(e:aj C ω w w0.heap.size env a.tmps){t:TypeId}{x:Operand}{x':qh}{b q:Nat}{v:qa}{ow:Bool}{cs:List (qa×Bool)}{h':j8}(ho:o.op=.load t x)(cK:fb P t=I E6)
  (h1:zr x=I x') (e1:zd env x'=I (.ptr b q)) (kI:yl hp b=I cs) (hc:cs[q]?=I (v,ow)) (bm:yj hp b (.cells (cs.set q (v,E6)))=I h'):
  ∃u w',(execOp a.eval o).run P w=.ok (.value u) w'∧kf P C0 w0 C a.tmps d env ⟨v,ow,E3,h'⟩ u w':=by
 obtain⟨r,hr,hq⟩:=(zu e.bT h1 e1).cU
 obtain⟨vs,te,hg,cD,hold⟩:=m.box b _ r (vf kI) hr
 obtain⟨cv,k1,k2,k3,k4⟩:=hold q _ hc
 obtain rfl:=zo bm
 have dB:w.cell? ⟨r,q,E3⟩=I cv:=by
  simp only[World.cell?,hg]
  simpa using k1
 have bp:(execOp a.eval o).run P w=.ok (.value cv) w:=by
  simp[execOp,ho,hq,Instr.loadAt,Instr.sureAddr,EW cK dB]
 have hu:jk w w r:=⟨rfl,fun _ _=>rfl,fun c t fr h=>by rw[hg]at h;cases h;rfl,rfl,rfl⟩
 have fY:∀ω':Nat→Option Loc,(∀j c u,j≠q→aF C ω w w0.heap.size (.cell b j) c u→aF C ω' w w0.heap.size (.cell b j) c u)→bn P C ω' w w0.heap.size b r (.cells (cs.set q (v,E6))):=by
  intro ω' hk
  refine⟨vs,te,hg,by simpa using cD,fun j c hj=>?_⟩
  rw[List.getElem?_set]at hj
  split at hj
  ·rename_i Sx
   subst Sx
   split at hj
   ·cases hj;exact⟨cv,k1,k2,k3,by simp⟩
   ·cases hj
  ·rename_i Sx
   obtain⟨u,a1,a2,a3,a4⟩:=hold j c hj
   exact⟨u,a1,a2,a3,fun h=>hk _ _ _ (Ne.symm Sx) (a4 h)⟩
 refine⟨cv,w,bp,?_⟩
 by_cases hk:ow=En
 ·subst hk
  have cB:=k4 rfl
  refine⟨C,uc ω v cv d,ay.le_refl C,?_,?_,k3,fun _=>Mp cB⟩
  ·exact m.du hu hr _ (fun b' j y u eT hz=>wJ cB (by simp[eT]) hz) (fY _ fun j c u hj hz=>wJ cB (by simp[hj]) hz)
  ·exact fun t x hx=>let ⟨u,k1,k2,k3⟩:=e t x hx; ⟨u,k1,k2,fun h=>wJ cB (by simp) (k3 h)⟩
 ·refine⟨C,ω,ay.le_refl C,m.du hu hr _ (fun _ _ _ _ _ h=>h) (fY _ fun _ _ _ _ h=>h),e,k3,fun h=>absurd h hk⟩
end
end Go.Abs
