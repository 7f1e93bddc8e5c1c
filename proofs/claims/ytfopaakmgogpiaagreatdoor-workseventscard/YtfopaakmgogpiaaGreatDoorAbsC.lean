/- Operations that make a new slice. -/
import Derived.Test.YtfopaakmgogpiaaGreatDoorAbsB
set_option linter.unusedVariables false
set_option linter.unusedSimpArgs false
open Option renaming some→I,none→E0,isSome_iff_exists→N1
open Bool renaming true→Ef,false→Gb,false_eq_true→Sf,and_eq_true→S1
open List renaming replicate→En,getElem?_append_right→Ga,getElem?_append_left→Gc,replicate_succ→Gy,getElem?_eq_some_iff→Hb,getElem?_eq_getElem→Hq,getElem?_take_of_lt→H6,mem_replicate→If,flatten_cons→Mn,append_assoc→Mt,getElem?_set_self→Mu,getElem?_toArray→Mw,mem_of_getElem?→My,getElem?_of_mem→Nf,getElem?_set_ne→Ny,mem_append→N0,mem_map→N2,length_set→N3,getElem?_eq_none→N4,length_append→St,getElem?_drop→Sx,getElem?_map→Sz,flatMap_cons→S0,all_eq_true→S6,mem_flatten→S7,length_map→Ta,mem_cons→Td,take→Tj,map_cons→Tl
open Nat renaming eq_of_beq_eq_true→Gd,le_refl→Gm,beq→Ma,add_mul→R5,le_of_ble_eq_true→R9,mul_le_mul_right→Sc,le_trans→Sy,mul_eq_zero→S9,mul_le_mul→Tc
open Array renaming getD_eq_getD_getElem?→Ge,getElem?_toList→Gz,getElem?_eq_some_iff→Ha,range→Hh,ext'→Tb
namespace Go.Abs
section
variable {P:Program}{C C0:ay}{ω:Nat→Option Loc}{w w0:World}{hp:j8}{env:Env}{a:Act}{o:Oper}{tmps:Array Value}{d:Loc}
theorem aj.strip {B:Nat}(e:aj C ω w B env tmps)(s:Option Nat):aj C ω w B (kz env s) tmps:=by
 cases s with
 |none=>exact e
 |some s=>
  simp only[kz]
  split
  ·rename_i v o hl
   intro t x hx
   simp only[yd]at hx
   cases hb:Ma s t with
   |false=>rw[hb]at hx;simp at hx;exact e t x hx
   |true=>
    rw[hb]at hx
    simp at hx
    subst hx
    obtain rfl:=Gd hb
    obtain⟨u,h1,h2,_⟩:=e s _ hl
    exact⟨u,h1,h2,by simp⟩
  ·exact e
theorem q4g (m:av P C ω w0 C0 hp w)(e:aj C ω w w0.heap.size env tmps){x:qa}{v:Value}(h:bF C x v):kf P C0 w0 C tmps d env ⟨x,Gb,E0,hp⟩ v w:=
 ⟨C,ω,ay.le_refl C,m,e,h,by simp⟩
theorem Mf (m:av P C ω w0 C0 hp w)(e:aj C ω w w0.heap.size env tmps)(cells:Array Value)(t:TypeId)(xs:List qa)(sz cap:Nat)(vs:List Value)(hr:aM C (xs.flatMap qa.flat) vs)
  (hv:∀(j:Nat) v,vs[j]?=I v→cells[j]?=I v) (h1:∀v∈vs,v.oneCell'=Ef) (hs:∀x∈xs,x.flat.length=sz) (hcap:xs.length≤cap) (cf:cap*sz≤cells.size) (s:Option Nat):
  kf P C0 w0 C tmps d env ⟨.list Gb sz xs,Ef,s,hp⟩ (.slice (I ⟨w.heap.size,0,E0⟩) xs.length cap) (w.alloc (.cells cells t)):=by
 have hn:∀o,C.K w.heap.size o=E0:=m.jC _ (Gm _)
 have hx:Ext w (w.alloc (.cells cells t)):=Ext.alloc w _ (fun c t fr h=>by cases h;rfl)
 have m1:=(m.newRow cells t vs hv h1)
 have Sj:∀ℓ x v,aF C ω w w0.heap.size ℓ x v→aF (C.put w.heap.size 0 vs) (ct ω w.heap.size d) (w.alloc (.cells cells t)) w0.heap.size ℓ x v:=fun ℓ x v ho=>((ho.fresh (Gm _)).put vs (.inl (Gm _))).ext hx
 have hle:=ay.fX (C:=C) (off:=0) vs (fun o _=>hn o)
 have hcells:=ay.eK (C:=C) (off:=0) (fun o _=>hn o) hr
 have hl:vs.length=xs.length*sz:=by rw[hr.length,lm xs hs]
 refine⟨C.put w.heap.size 0 vs,ct ω w.heap.size d,hle,?_,?_,?_,?_⟩
 ·exact { m1 with box:=fun b x r fh hb=>((m.box b x r fh hb).mono hle fun j y v ho=>(ho.fresh (Gm _)).put vs (.inl (Gm _))).ext hx }
 ·refine aj.strip ?_ s
  exact fun t x hx=>let ⟨v,h1,h2,h3⟩:=e t x hx; ⟨v,h1,qp.mono hle h2,fun h=>Sj _ _ _ (h3 h)⟩
 ·exact .list _ _ _ _ _ hcap (aX.et hcells hs)
 ·intro _
  refine⟨by simp[ct],.inl m.size,?_,rfl,rfl,⟨cells,t,by rw[vk,if_pos rfl],by simpa using cf,eu.sized hs⟩,?_⟩
  ·intro b hb
   have:=(m.lt b _ hb).1
   simp at this
  ·intro o ho
   simp only[ay.put]
   rw[if_neg (by simp at ho;omega)]
   exact hn o
theorem Mg {zs:List Value}{sz:Nat}(hz:zs.length=sz)(hs:0<sz):∀(n:Nat),(List.range (n*sz)).map (fun i=>zs.toArray[i % zs.toArray.size]!)=(En n zs).flatten
 |0=>by simp
 |n+1=>by
  rw[Nat.succ_mul,List.range_add,List.map_append,Mg hz hs n,List.replicate_succ',List.flatten_append]
  congr 1
  simp only[List.map_map,Mn,List.flatten_nil,List.append_nil]
  apply List.ext_getElem?
  intro j
  rw[Sz]
  by_cases hj:j<sz
  ·rw[List.getElem?_range hj]
   simp only[Option.map_some,Function.comp,List.size_toArray,hz]
   rw[Nat.mul_add_mod_self_right,Nat.mod_eq_of_lt hj]
   rw[Hq (by omega),getElem!_pos _ _ (by simpa[hz]using hj)]
   simp
  ·rw[N4 (by simpa using hj),N4 (by omega)]
   rfl
theorem aM.replicate {zs:List qa}{vs:List Value}(h:aM C zs vs):∀n:Nat,aM C (En n zs).flatten (En n vs).flatten
 |0=>.nil
 |n+1=>by
  rw[Gy,Gy,Mn,Mn]
  exact aM.append h (aM.replicate h n)
def ud (sz:Nat)(zero:List qa):qa:=bif Ma sz 1 then zero.headD .undef else .agg zero
theorem Sk {sz:Nat}{zero:List qa}(hz:zero.length=sz)(hs:∀z∈zero,z.isAgg=Gb):(ud sz zero).flat=zero:=by
 unfold ud
 cases hb:Ma sz 1 with
 |false=>rfl
 |true=>
  obtain rfl:=Gd hb
  obtain⟨z,rfl⟩:=List.length_eq_one_iff.1 hz
  exact qc0 (hs z (by simp))
theorem qnf {sz:Nat}{zero:List qa}(hz:zero.length=sz)(hs:∀z∈zero,z.isAgg=Gb)(n:Nat):(En n (ud sz zero)).flatMap qa.flat=(En n zero).flatten:=by
 induction n with
 |zero=>rfl
 |succ n ih=>rw[Gy,S0,Sk hz hs,ih,Gy,Mn]
theorem q0y {v:Value}{x:qa}(h:De v=I x):ze x=Ef∧v.oneCell'=Ef:=by
 unfold De at h
 split at h<;>first|cases h|skip
 all_goals exact⟨rfl,rfl⟩
theorem qok:∀ {vs:List Value} {xs:List qa},vj vs=I xs→(∀x∈xs,ze x=Ef)∧∀v∈vs,v.oneCell'=Ef
 | [],xs,h=>by simp[vj]at h;subst h;simp
 |v::vs,xs,h=>by
  simp only[vj]at h
  split at h
  ·rename_i x hx
   split at h
   ·rename_i ys mE
    cases h
    obtain⟨h1,h2⟩:=q0y hx
    obtain⟨h3,h4⟩:=qok mE
    exact⟨by simpa using⟨h1,h3⟩,by simpa using⟨h2,h4⟩⟩
   ·cases h
  ·cases h
theorem qoh {x:qa}(h:ze x=Ef):x.isAgg=Gb:=by cases x<;>simp[ze,qa.isAgg]at *
theorem uf {t:TypeId}{z:List qa}(h:ek P t=I z):(∀x∈z,ze x=Ef)∧∃v,(∀w,(zeroValue t).run P w=.ok v w)∧aM C z v.cells.toList∧∀u∈v.cells.toList,u.oneCell'=Ef:=by
 unfold ek at h
 split at h
 ·rename_i i hi
  split at h
  ·rename_i v hv
   obtain⟨h1,h2⟩:=qok h
   exact⟨h1,v,fun w=>by simp[zeroValue,typeInfo,hi,hv],L6 C h,h2⟩
  ·cases h
 ·cases h
theorem Sl {x:qa}{v:Value}(h:bF C x v)(hs:ze x=Ef):v.oneCell'=Ef:=by
 cases h<;>first|rfl|(simp[ze]at hs)
theorem zG {xs:List qa}:∀ {vs:List Value},aM C xs vs→(∀x∈xs,ze x=Ef)→∀v∈vs,v.oneCell'=Ef:=by
 induction xs with
 |nil=>intro vs h _ v hv;cases h;cases hv
 |cons x xs ih=>
  intro vs h hs v hv
  cases h with
  |cons _ _ u us hx h=>
   rcases Td.1 hv with rfl|hv
   ·exact Sl hx (hs x (by simp))
   ·exact ih h (fun y hy=>hs y (by simp[hy])) v hv
theorem q0r:∀ (qs:List (Nat×List qa)) (xs ys:List qa),jB xs qs=I ys→(∀x∈xs,ze x=Ef)→(∀q∈qs,∀x∈q.2,ze x=Ef)→∀y∈ys,ze y=Ef
 | [],xs,ys,h,hx,_=>by simp[jB]at h;subst h;exact hx
 |(off,vs)::qs,xs,ys,h,hx,hq=>by
  simp only[jB]at h
  cases hb:Nat.ble (off+vs.length) xs.length with
  |false=>simp[hb]at h
  |true=>
   simp only[hb,cT]at h
   refine q0r qs _ ys h ?_ (fun q h=>hq q (by simp[h]))
   intro x h
   simp only[N0]at h
   rcases h with(h|h)|h
   ·exact hx x (List.mem_of_mem_take h)
   ·exact hq (off,vs) (by simp) x h
   ·exact hx x (List.mem_of_mem_drop h)
theorem qk5 {sz:Nat}:∀(ps:List (Nat×qh)) (qs:List (Nat×qa)),iA env sz ps=I qs→∀q∈qs,∀x∈q.2.flat,ze x=Ef
 | [],qs,h=>by simp[iA]at h;subst h;simp
 |(i,x)::ps,qs,h=>by
  simp only[iA]at h
  split at h
  ·rename_i v iK
   cases hb:(Ma v.flat.length sz&&v.flat.all ze)with
   |false=>simp[hb]at h
   |true=>
    simp only[hb,cT]at h
    simp only[S1,S6]at hb
    split at h
    ·rename_i r hr
     cases h
     intro q hq
     rcases Td.1 hq with rfl|hq
     ·exact hb.2
     ·exact qk5 ps r hr q hq
    ·cases h
  ·cases h
theorem qmw (e:aj C ω w w0.heap.size env a.tmps){t el:TypeId}{ps:Array (Nat×Operand)}{len sz:Nat}{z:List qa}{ft:List (Nat×qh)}{qs:List (Nat×qa)}{xs:List qa}
  (ho:o.op=.buildSlice t len ps) (ht:P.underlying t=I (.slice el)) (hn:yg P el=I sz) (hz:ek P el=I z) (hlen:sz*len≤65536) (h0:0<sz) (gM:z.length=sz)
  (lX:wP ps.toList=I ft) (hq:iA env sz ft=I qs) (hx:lb (En len (ud sz z)) qs=I xs):
  ∃ds,(execOp a.eval o).run P w=.ok (.value (.slice (I ⟨w.heap.size,0,E0⟩) len len)) (w.alloc (.cells ds el))∧aM C (xs.flatMap qa.flat) ds.toList∧(∀v∈ds.toList,v.oneCell'=Ef)∧(∀x∈xs,x.flat.length=sz)∧xs.length=len∧len*sz≤ds.size:=by
 obtain⟨pJ,zv,kM,cw,lj⟩:=uf (C:=C) hz
 have wU:∀x∈z,x.isAgg=Gb:=fun x h=>qoh (pJ x h)
 have mG:zv.cells.toList.length=sz:=by rw[cw.length,gM]
 have jE:((Hh (len*sz)).map (fun i=>zv.cells[i % zv.cells.size]!)).toList=(En len zv.cells.toList).flatten:=by
  have:=Mg mG h0 len
  simpa using this
 obtain⟨ub,hqs⟩:=qp3 e.bV ps.toList ft qs lX hq
 obtain⟨hf,oW,mF⟩:=qxe (sz:=sz) qs _ xs hx (by
  intro x h
  obtain⟨_,rfl⟩:=If.1 h
  rw[Sk gM wU,gM]) hqs
 rw[qnf gM wU]at hf
 obtain⟨ds,hd,hdr⟩:=Me _ _ _ _ ((Hh (len*sz)).map (fun i=>zv.cells[i % zv.cells.size]!)) (by rw[jE];exact cw.replicate len) hf ub
 have jF:xs.length=len:=by simpa using mF
 have hsc:∀y∈xs.flatMap qa.flat,ze y=Ef:=q0r _ _ _ hf (by
  intro x h
  rw[S7]at h
  obtain⟨l,h1,h2⟩:=h
  obtain⟨_,rfl⟩:=If.1 h1
  exact pJ x h2) (by
  intro q hq1 x Dp
  obtain⟨p,jG,rfl⟩:=N2.1 hq1
  exact qk5 ft qs hq p jG x Dp)
 have zH:ds.toList.length=len*sz:=by rw[hdr.length,lm xs oW,jF]
 refine⟨ds,?_,hdr,zG hdr hsc,oW,jF,by simp at zH;omega⟩
 ·have uc:(ps.map fun(x:Nat×Operand)=>(x.1,a.eval x.2)).toList=ps.toList.map fun x=>(x.1,a.eval x.2):=by simp
  have hle:¬(16777216<len*sz):=by rw[Nat.mul_comm];omega
  by_cases E1:len=0
  ·subst E1
   have hr:Hh 0=#[]:=rfl
   rw[Nat.zero_mul,hr,Array.map_empty]at hd
   simp only[execOp,ho,Instr.buildSlice,Sem.run_bind,run_underlying ht,Result.andThen_ok,iL hn,uc]
   simp[hr,hd,newRow]
  ·have bA:¬(len*sz=0):=by
    intro h
    rcases S9.1 h with h|h<;>omega
   simp only[execOp,ho,Instr.buildSlice,Sem.run_bind,run_underlying ht,Result.andThen_ok,iL hn,uc]
   simp[hle,bA,kM,hd,newRow]
theorem qzl (m:av P C ω w0 C0 hp w)(e:aj C ω w w0.heap.size env a.tmps){t el:TypeId}{ps:Array (Nat×Operand)}{len sz:Nat}{z:List qa}{ft:List (Nat×qh)}{qs:List (Nat×qa)}{xs:List qa}
  (ho:o.op=.buildSlice t len ps) (ht:P.underlying t=I (.slice el)) (hn:yg P el=I sz) (hz:ek P el=I z) (hlen:sz*len≤65536) (h0:0<sz) (gM:z.length=sz)
  (lX:wP ps.toList=I ft) (hq:iA env sz ft=I qs) (hx:lb (En len (ud sz z)) qs=I xs):
  ∃v w',(execOp a.eval o).run P w=.ok (.value v) w'∧kf P C0 w0 C a.tmps d env ⟨.list Gb sz xs,Ef,E0,hp⟩ v w':=by
 obtain⟨ds,bm,hdr,h1,oW,jF,cf⟩:=qmw (C:=C) (ω:=ω) (w:=w) (w0:=w0) e ho ht hn hz hlen h0 gM lX hq hx
 refine⟨_,_,bm,?_⟩
 have ez:=Mf (d:=d) (tmps:=a.tmps) m e ds el xs sz len ds.toList hdr (by intro j v h;simpa using h) h1 oW (by omega) cf E0
 rw[jF]at ez
 exact ez
theorem q5v (m:av P C ω w0 C0 hp w)(e:aj C ω w w0.heap.size env a.tmps){t el:TypeId}{x y:Operand}{x' y':qh}{n sz b:Nat}{z:List qa}
  (ho:o.op=.makeSlice t x y) (ht:P.underlying t=I (.slice el)) (hn:yg P el=I sz) (hb:nA P el=I b) (hz:ek P el=I z) (h0:0<sz) (gM:z.length=sz)
  (h1:zq x=I x') (h2:zq y=I y') (e1:zc env x'=I (.int .i64 (n:Int))) (e2:zc env y'=I (.int .i64 (n:Int))) (hle:n≤1073741824) (iM:b≤4096):
  ∃v w',(execOp a.eval o).run P w=.ok (.value v) w'∧kf P C0 w0 C a.tmps d env ⟨.list Gb sz (En n (ud sz z)),Ef,E0,hp⟩ v w':=by
 obtain⟨pJ,zv,kM,cw,lj⟩:=uf (C:=C) hz
 have wU:∀x∈z,x.isAgg=Gb:=fun x h=>qoh (pJ x h)
 have mG:zv.cells.toList.length=sz:=by rw[cw.length,gM]
 have jE:((Hh (n*sz)).map (fun i=>zv.cells[i % zv.cells.size]!)).toList=(En n zv.cells.toList).flatten:=by
  have:=Mg mG h0 n
  simpa using this
 have r1:=(zt e.bV h1 e1).bH
 have r2:=(zt e.bV h2 e2).bH
 have oW:∀x∈En n (ud sz z),x.flat.length=sz:=by
  intro x h
  obtain⟨_,rfl⟩:=If.1 h
  rw[Sk gM wU,gM]
 have fI:aM C ((En n (ud sz z)).flatMap qa.flat) ((Hh (n*sz)).map (fun i=>zv.cells[i % zv.cells.size]!)).toList:=by
  rw[qnf gM wU,jE];exact cw.replicate n
 obtain⟨i,hi,pM⟩:∃i,P.info? el=I i∧i.bytes=b:=by
  unfold nA at hb
  cases hi:P.info? el with
  |none=>simp[hi]at hb
  |some i=>exact⟨i,rfl,by simpa[hi]using hb⟩
 have jT:i.size=sz:=by
  unfold yg at hn
  rw[hi]at hn
  simpa using hn
 have pN:IntKind.i64.wrap (n:Int)=n:=by
  rw[←zC];unfold j6
  have:pE .i64 (n:Int)=Ef:=by simp[pE];exact Sy hle (by decide)
  rw[this];rfl
 have zA:b*n≤281474976710656:=Sy (Tc iM hle) (by decide)
 have ez:=Mf (d:=d) (tmps:=a.tmps) m e ((Hh (n*sz)).map (fun i=>zv.cells[i % zv.cells.size]!)) el (En n (ud sz z)) sz n _ fI (by intro j v h;rw[Gz]at h;exact h) (by
   rw[jE]
   intro v hv
   rw[S7]at hv
   obtain⟨l,q1,q2⟩:=hv
   obtain⟨_,rfl⟩:=If.1 q1
   exact lj v q2) oW (by simp) (by simp) E0
 rw[List.length_replicate]at ez
 refine⟨_,_,?_,ez⟩
 have c1:¬((b:Int)*(n:Int) > 2^48):=by
  have h1:((b*n:Nat):Int)≤281474976710656:=Int.ofNat_le.2 zA
  rw[Int.natCast_mul]at h1
  have h2:(2:Int)^48=281474976710656:=by decide
  rw[h2];omega
 have c2:¬((n:Int)<0):=by omega
 have hr:Hh 0=#[]:=rfl
 simp only[execOp,ho,Instr.makeSlice,Sem.run_bind,run_underlying ht,r1,r2,asInt,asIntOf,Sem.run_pure,Result.andThen_ok,typeInfo,run_program,hi,pM,pN,c2,c1,decide_false,Bool.or_false,Sf,if_false,Int.lt_irrefl,gt_iff_lt,run_askRoom,Int.toNat_natCast,iL hn,newRow]
 by_cases zD:n=0
 ·subst zD
  simp[hr]
 ·have bA:¬(n*sz=0):=by
   intro h
   rcases S9.1 h with h|h<;>omega
  simp[bA,kM]
end
structure jm (w w':World)(r:Nat)(cs:Array Value):Prop where
 at_:∃t,w'.heap[r]?=I (.cells cs t (0,0))
 size:w'.heap.size=w.heap.size
 other:∀k,k≠r→w'.heap[k]?=w.heap[k]?
 os:w'.os=w.os
 output:w'.output=w.output
theorem E2 {w:World}{r:Nat}{old:Array Value}{t:TypeId}(h:w.heap[r]?=I (.cells old t (0,0)))(cs:Array Value):jm w (w.setRow r cs) r cs:=
 ⟨⟨t,setRow_heap w r old cs t (0,0) h⟩,setRow_size w r cs,fun k hk=>setRow_other w r k cs hk,rfl,rfl⟩
section
variable {P:Program}{C C0:ay}{ω:Nat→Option Loc}{w w' w0:World}{hp:j8}{env:Env}{a:Act}{o:Oper}{tmps:Array Value}{d:Loc}
theorem aF.ia {B r:Nat}{cs:Array Value}{ℓ:Loc}{x:qa}{v:Value}(hu:jm w w' r cs)(hr:ω r≠I ℓ)(ho:aF C ω w B ℓ x v):aF C ω w' B ℓ x v:=by
 unfold aF at *
 split at ho
 ·rename_i a len cap
  obtain⟨h1,h2,h3,h4,h8,⟨cells,elem,h5,h6⟩,h7⟩:=ho
  refine⟨h1,h2,h3,h4,h8,⟨cells,elem,?_,h6⟩,h7⟩
  rw[hu.other _ (fun h=>hr (h▸h1))]
  exact h5
 ·rename_i a
  obtain⟨h1,h2,h3,h4,h8,⟨cells,elem,h5,h6⟩,h7⟩:=ho
  refine⟨h1,h2,h3,h4,h8,⟨cells,elem,?_,h6⟩,h7⟩
  rw[hu.other _ (fun h=>hr (h▸h1))]
  exact h5
 ·trivial
theorem br.ia {B b r r':Nat}{cs:Array Value}{x:qn}(hu:jm w w' r cs)(bA:r'≠r)(hr:∀j,ω r≠I (.cell b j))(hb:br P C ω w B b r' x):br P C ω w' B b r' x:=by
 have hg:=hu.other r' bA
 cases x with
 |hole=>exact hb
 |cells dV=>
  obtain⟨vs,elem,h1,h2,h3⟩:=hb
  exact⟨vs,elem,by rw[hg];exact h1,h2,fun j c hc=>let ⟨v,a,q,b,d⟩:=h3 j c hc; ⟨v,a,q,b,fun e=>(d e).ia hu (hr j)⟩⟩
 |map es=>obtain⟨bQ,clock,h1,h2⟩:=hb;exact⟨bQ,clock,by rw[hg];exact h1,h2⟩
 |iter s pos=>show w'.heap[r']?=_;rw[hg];exact hb
 |loop l=>obtain⟨lp,h1,h2⟩:=hb;exact⟨lp,by rw[hg];exact h1,h2⟩
 |fE t e l=>obtain⟨p,v,h1,h2,h3,h4⟩:=hb;exact⟨p,v,by rw[hg];exact h1,h2,h3,h4.ia hu (hr 1)⟩
 |dead=>obtain⟨cs,t,h1⟩:=hb;exact⟨cs,t,by rw[hg];exact h1⟩
 |vec sz bz xs=>exact dH.imp (fun _ _ _ h=>h) (fun _ h=>h) (fun _ h _=>h) hg (fun q n cap k=>⟨hu.other q (fun hq=>hr 0 (hq▸k.1)),k.ia hu (hr 0)⟩) hb
theorem qvt (m:av P C ω w0 C0 hp w)(e:aj C ω w w0.heap.size env tmps){r q:Nat}{cells:Array Value}{t:TypeId}{news:List Value}{s:Nat}(hω:ω r=I (.slot s))(hB:w0.heap.size≤r∨C.W r)(hβ:∀b,C.β b≠I r)
  (hg:w.heap[r]?=I (.cells cells t (0,0))) (cf:q+news.length≤cells.size) (hK:∀o,q≤o→C.K r o=E0) (h1:∀v∈news,v.oneCell'=Ef):
  av P (C.put r q news) (ct ω r d) w0 C0 hp (w.setRow r (cells.toList.take q++news++cells.toList.drop (q+news.length)).toArray) ∧
  aj (C.put r q news) (ct ω r d) (w.setRow r (cells.toList.take q++news++cells.toList.drop (q+news.length)).toArray) w0.heap.size (kz env (I s)) tmps∧C.le (C.put r q news):=by
 have hu:=E2 hg (cells.toList.take q++news++cells.toList.drop (q+news.length)).toArray
 generalize Sm:w.setRow r (cells.toList.take q++news++cells.toList.drop (q+news.length)).toArray=w' at hu
 have hle:=ay.fX (C:=C) (off:=q) news hK
 have cB:∀ℓ x v,ℓ≠.slot s→aF C ω w w0.heap.size ℓ x v→aF (C.put r q news) (ct ω r d) w' w0.heap.size ℓ x v:=by
  intro ℓ x v hℓ ho
  have bA:ω r≠I ℓ:=by rw[hω];intro h;exact hℓ (I.inj h).symm
  have h2:aF (C.put r q news) ω w' w0.heap.size ℓ x v:=(ho.put news (.inr bA)).ia hu bA
  exact h2.other (.inl bA)
 refine⟨?_,?_,hle⟩
 ·have E3:=hu.size
  refine { base:=m.base,know:=?_,cR:=?_,apart:=?_,inj:=m.inj,lt:=?_,size:=?_,frame:=?_,eN:=?_,os:=hu.os.trans m.os,output:=hu.output.trans m.output,fresh:=m.fresh,grown:=ay.le_trans m.grown hle,old:=?_,box:=?_,gY:=fun q hq=>by rw[hu.size];exact m.gY q hq }
  ·intro b p v hk
   simp only[ay.put]at hk
   split at hk
   ·rename_i hc
    obtain⟨rfl,h2,h3⟩:=hc
    obtain⟨t',E4⟩:=hu.at_
    simp only[World.cell?,E4]
    rw[Mw,Mt,Ga (by simp;omega),Gc (by simp;omega)]
    have:(Tj q cells.toList).length=q:=by simp;omega
    rw[this]
    simpa using hk
   ·by_cases hb:b=r
    ·subst hb
     have aY:p<q:=by
      rcases Nat.lt_or_ge p q with h|h
      ·exact h
      ·rw[hK p h]at hk;cases hk
     have hc:=m.know _ _ _ hk
     obtain⟨t',E4⟩:=hu.at_
     simp only[World.cell?,hg]at hc
     simp only[World.cell?,E4]
     simp only[Option.isSome_none,Sf,if_false]at hc ⊢
     rw[Mw,Mt,Gc (by simp;omega),H6 aY,Gz]
     exact hc
    ·have hc:=m.know _ _ _ hk
     simp only[World.cell?]at hc ⊢
     rw[hu.other b hb]
     exact hc
  ·intro b p v hk
   simp only[ay.put]at hk
   split at hk
   ·exact h1 v (My hk)
   ·exact m.cR b p v hk
  ·intro b p o hb
   simp only[ay.put]
   rw[if_neg]
   ·exact m.apart b p o hb
   ·rintro ⟨rfl,_⟩;exact hβ b hb
  ·intro b p hb
   rw[E3];exact m.lt b p hb
  ·rw[E3];exact m.size
  ·intro k hk hn hw
   have gN:k≠r:=fun h=>by
    subst h
    rcases hB with h|h
    ·omega
    ·rw[m.grown.w]at h;exact hw h
   rw[hu.other k gN];exact m.frame k hk hn hw
  ·intro k hk
   have gN:k≠r:=fun h=>by
    subst h
    have:=m.eN k hk
    rw[hg]at this;cases this
   rw[hu.other k gN];exact m.eN k hk
  ·intro k o hk hw
   have gN:k≠r:=fun h=>by
    subst h
    rcases hB with h|h
    ·omega
    ·rw[m.grown.w]at h;exact hw h
   simp only[ay.put]
   rw[if_neg (by rintro ⟨h,_⟩;exact gN h)]
   exact m.old k o hk hw
  ·intro b x p hx hb
   have bA:p≠r:=fun h=>hβ b (h▸hb)
   have ug:=m.box b x p hx hb
   have kN:br P C ω w' w0.heap.size b p x:=ug.ia hu bA (fun j=>by rw[hω];simp)
   refine kN.mono hle fun j y v ho=>?_
   have ln:ω r≠I (.cell b j):=by rw[hω];simp
   exact(ho.put news (.inr ln)).other (.inl ln)
 ·intro t x hx
  have hlk:∃v o,yd s env=I (v,o)∨yd s env=E0:=by
   cases h:yd s env with
   |none=>exact⟨.undef,Gb,.inr rfl⟩
   |some x=>exact⟨x.1,x.2,.inl rfl⟩
  by_cases lq:t=s
  ·subst lq
   simp only[kz]at hx
   cases hl:yd t env with
   |none=>rw[hl]at hx;simp only[hl]at hx;cases hx
   |some y=>
    rw[hl]at hx
    simp only[yd,Nat.beq_refl,cT]at hx
    cases hx
    obtain⟨v,h2,h3,_⟩:=e t y hl
    exact⟨v,h2,qp.mono hle h3,by simp⟩
  ·have fh:yd t env=I x:=by
    simp only[kz]at hx
    cases hl:yd s env with
    |none=>rw[hl]at hx;exact hx
    |some y=>
     rw[hl]at hx
     simp only[yd]at hx
     have:Ma s t=Gb:=by
      cases hb:Ma s t with
      |false=>rfl
      |true=>exact absurd (Gd hb).symm lq
     rw[this]at hx
     exact hx
   obtain⟨v,h2,h3,h4⟩:=e t x fh
   exact⟨v,h2,qp.mono hle h3,fun h=>cB _ _ _ (by simp[lq]) (h4 h)⟩
theorem Sn {t tx ty e:TypeId}{i:TypeInfo}(ht:P.underlying t=I (.slice e))(hi:P.info? e=I i)(r off mH zI:Nat)(x:Value)(n:Nat)(news:List Value)(hs:Src P i.size tx x n news w)(dR:mH+n≤zI)
  {cells:Array Value} {te:TypeId} (hg:w.heap[r]?=I (.cells cells te (0,0))) (cf:off+mH*i.size+news.length≤cells.size):
  (Builtin.append_ #[t,tx] ty #[.slice (I ⟨r,off,E0⟩) mH zI,x]).run P w =
   .ok (.slice (I ⟨r,off,E0⟩) (mH+n) zI) (w.setRow r (cells.toList.take (off+mH*i.size)++news++cells.toList.drop (off+mH*i.size+news.length)).toArray):=by
 have bU:=run_storeCells_at (P:=P) r (off+mH*i.size) te news 0 cells w hg (by simpa using cf) hs.one
 simp only[Nat.add_zero]at bU
 rcases hs.kind with⟨e',hk⟩|hk<;>simp[Builtin.append_,run_underlying ht,run_underlying hk,sizeOf,typeInfo,hi,hs.len,dR,hs.cells,Addr.add_lit,bU]
theorem qmh {t tx ty e:TypeId}{i:TypeInfo}(ht:P.underlying t=I (.slice e))(hi:P.info? e=I i)(x:Value)(hs:Src P i.size tx x 0 [] w):
  (Builtin.append_ #[t,tx] ty #[.slice E0 0 0,x]).run P w=.ok (.slice E0 0 0) w:=by
 rcases hs.kind with⟨e',hk⟩|hk<;>simp[Builtin.append_,run_underlying ht,run_underlying hk,sizeOf,typeInfo,hi,hs.len,hs.cells]
theorem Mh (m:av P C ω w0 C0 hp w){u:TypeId}{ut:TypeDesc}{sz:Nat}{vy:qa}{ys:List qa}{v:Value}(hu:P.underlying u=I ut)(iN:zb ut=Ef)(h:kj sz vy=I ys)(hr:bF C vy v):
  ∃news,Src P sz u v ys.length news w∧aM C (ys.flatMap qa.flat) news∧(∀y∈ys,y.flat.length=sz)∧∀x∈news,x.oneCell'=Ef:=by
 have hk:(∃e',P.underlying u=I (.slice e'))∨P.underlying u=I .string:=by
  cases ut<;>simp[zb]at iN
  ·exact .inr hu
  ·exact .inl ⟨_,hu⟩
 cases vy with
 |list n sy nF=>
  simp only[kj]at h
  cases hb:(Ma sz sy||nF.isEmpty)with
  |false=>simp[hb]at h
  |true=>
   simp only[hb,cT,I.injEq]at h
   subst h
   rcases hr.cG with⟨rfl,rfl,rfl⟩|⟨rfl,r,q,cap,rfl,_,cM⟩|⟨rfl,rfl,ad,_,rfl⟩
   ·exact⟨[],⟨hk,fun _=>rfl,run_firstCells_none w sz 0 0 0,run_firstCells_none w.drew sz 0 0 0,by simp,by simp⟩,.nil,by simp,by simp⟩
   ·obtain⟨news,h1,h2⟩:=bZ.vals cM.cells
    have h3:∀x∈news,x.oneCell'=Ef:=fun x hx=>by
     obtain⟨j,hj⟩:=Nf hx
     exact m.cR _ _ _ (h2 j x hj)
    have cD:∀y∈nF,y.flat.length=sz:=by
     intro y hy
     rcases Bool.or_eq_true _ _▸hb with hb|hb
     ·rw[Gd hb];exact cM.sized y hy
     ·rw[List.isEmpty_iff.1 hb]at hy;cases hy
    have hl:news.length=nF.length*sz:=by rw[h1.length,lm nF cD]
    have hc:∀j u,news[j]?=I u→w.cell? ((⟨r,q,E0⟩:Addr).add j)=I u:=fun j u hj=>by rw[add_lit];exact m.know _ _ _ (h2 j u hj)
    refine⟨news,⟨hk,fun _=>rfl,run_firstCells_some w sz _ _ _ _ news hl hc,run_firstCells_some w.drew sz _ _ _ _ news hl (by simpa using hc),hl,h3⟩,h1,cD,h3⟩
   ·exact⟨[],⟨hk,fun _=>rfl,run_firstCells_some w sz _ _ _ _ [] (by simp) (by simp),run_firstCells_some w.drew sz _ _ _ _ [] (by simp) (by simp),by simp,by simp⟩,.nil,by simp,by simp⟩
 |str s=>
  simp only[kj]at h
  cases hb:Ma sz 1 with
  |false=>simp[hb]at h
  |true=>
   simp only[hb,cT,I.injEq]at h
   obtain rfl:=Gd hb
   subst h
   obtain rfl:=hr.bX
   have jH:∀l:List UInt8,(l.map fun(c:UInt8)=>qa.int .u8 c.toNat).flatMap qa.flat=l.map fun(c:UInt8)=>qa.int .u8 c.toNat:=by
    intro l;induction l with
    |nil=>rfl
    |cons c l ih=>simp only[Tl,S0,ih];rfl
   have fI:∀l:List UInt8,aM C (l.map fun(c:UInt8)=>qa.int .u8 c.toNat) (l.map fun b=>Value.int .u8 b.toNat):=by
    intro l;induction l with
    |nil=>exact .nil
    |cons c l ih=>exact .cons _ _ _ _ (.int _ _) ih
   refine⟨byteCells ⟨⟨s⟩⟩,⟨hk,fun w'=>by simp[Builtin.lenOf];rfl,?_,?_,?_,?_⟩,?_,?_,?_⟩
   ·rw[Ta];exact firstCells_string (P:=P) ⟨⟨s⟩⟩ w
   ·rw[Ta];exact firstCells_string (P:=P) ⟨⟨s⟩⟩ w.drew
   ·simp[byteCells]
   ·intro u hu;obtain⟨_,_,rfl⟩:=N2.1 hu;rfl
   ·rw[jH];simpa[byteCells]using fI s
   ·intro y hy;obtain⟨_,_,rfl⟩:=N2.1 hy;rfl
   ·intro u hu;obtain⟨_,_,rfl⟩:=N2.1 hu;rfl
 |_=>simp[kj]at h
theorem E5 {x:qh}{s:Nat}(h:kg env x=I s):x=.tmp s∧∃v,yd s env=I (v,Ef):=by
 unfold kg at h
 split at h
 ·split at h
  ·rename_i t v hl
   cases h
   exact⟨rfl,v,hl⟩
  ·cases h
 ·cases h
theorem q4y (e:aj C ω w w0.heap.size env a.tmps){x:Operand}{x':qh}{sz len cap:Nat}{xs:List qa}{ad:Addr}(h1:zq x=I x')(cB:(kg env x').isSome=Ef)(e1:zc env x'=I (.list Gb sz xs))(hx:a.eval x=.slice (I ad) len cap):ad.spot=E0:=by
 obtain⟨s,gA⟩:=N1.1 cB
 obtain⟨fh,v0,hl⟩:=E5 gA
 have iO:v0=.list Gb sz xs:=by
  subst fh
  simp only[zc,hl]at e1
  exact I.inj e1
 subst iO
 obtain⟨cv,wV,Mi,zJ⟩:=e s _ hl
 have oc:cv=.slice (I ad) len cap:=by
  have ib:zq x=I (.tmp s):=by rw[h1,fh]
  cases x with
  |tmp t'=>
   simp only[zq]at ib
   cases ib
   have:a.eval (.tmp s)=cv:=by simp[Act.eval,Ge,wV]
   rw[←this,hx]
  |const u=>simp only[zq]at ib;split at ib<;>cases ib
  |func f=>simp[zq]at ib
  |global g=>simp[zq]at ib
 subst oc
 exact(zJ rfl).2.2.2.1
theorem q8v (m:av P C ω w0 C0 hp w)(e:aj C ω w w0.heap.size env a.tmps){c:Call}{t u el:TypeId}{ut:TypeDesc}{x y:Operand}{x' y':qh}{sz b:Nat}{n:Bool}{cK:Nat}{xs ys:List qa}{vy:qa}
  (ho:o.op=.call c) (dB:c.callee=.builtin .append) (dK:c.args.toList=[x,y]) (dY:c.argTypes.toList=[t,u]) (ht:P.underlying t=I (.slice el)) (hu:P.underlying u=I ut) (iN:zb ut=Ef)
  (hn:yg P el=I sz) (hb:nA P el=I b) (h1:zq x=I x') (h2:zq y=I y') (e1:zc env x'=I (.list n cK xs)) (e2:zc env y'=I vy) (cy:kj sz vy=I ys)
  (cB:n=Ef∨(kg env x').isSome=Ef) (zK:sz=cK∨(xs=[]∧n=Ef)) (hlen:xs.length+ys.length≤1073741824) (iM:b≤4096) (hzero:∃z,ek P el=I z∧z.length=sz):
  ∃v w',(execOp a.eval o).run P w=.ok (.value v) w'∧kf P C0 w0 C a.tmps d env ⟨pF n sz xs ys,Ef,kg env x',hp⟩ v w':=by
 have ha:c.args=#[x,y]:=by apply Tb;simpa using dK
 have jS:c.argTypes=#[t,u]:=by apply Tb;simpa using dY
 obtain⟨i,hi,pM⟩:∃i,P.info? el=I i∧i.bytes=b:=by
  unfold nA at hb
  cases hi:P.info? el with
  |none=>simp[hi]at hb
  |some i=>exact⟨i,rfl,by simpa[hi]using hb⟩
 have jT:i.size=sz:=by
  unfold yg at hn;rw[hi]at hn;simpa using hn
 obtain⟨z,hz,zL⟩:=hzero
 obtain⟨zv,mI⟩:∃zv,i.zero=I zv:=by
  unfold ek at hz;rw[hi]at hz
  cases hq:i.zero with
  |none=>simp[hq]at hz
  |some v=>exact⟨v,rfl⟩
 have rx:=zt e.bV h1 e1
 have ry:=zt e.bV h2 e2
 obtain⟨news,hs,cH,fi,cI⟩:=Mh m hu iN cy ry
 have eA:∀ {z:Value} {w':World},(Builtin.append_ #[t,u] o.type #[a.eval x,a.eval y]).run P w=.ok z w'→(execOp a.eval o).run P w=.ok (.value z) w':=by
  intro z w' h
  simp[execOp,ho,resolve,dB,ha,jS,invoke,builtin,h]
 have mJ:news.length=ys.length*sz:=by rw[cH.length,lm ys fi]
 -- a new row
 have grow:∀(base:Option Addr) (cap:Nat) (dZ:List Value),a.eval x=.slice base xs.length cap→cap<xs.length+ys.length→(∀(w':World),w'=w.drew→(Builtin.firstCells i.size xs.length (.slice base xs.length cap)).run P w'=.ok dZ.toArray w') →
   aM C (xs.flatMap qa.flat) dZ→(∀v∈dZ,v.oneCell'=Ef)→(∀x∈xs,x.flat.length=sz) →
   ∃v w',(execOp a.eval o).run P w=.ok (.value v) w'∧kf P C0 w0 C a.tmps d env ⟨.list Gb sz (xs++ys),Ef,kg env x',hp⟩ v w':=by
  intro base cap dZ pO hcap hold wW E6 od
  have cf:Builtin.nextslicecap (xs.length+ys.length) cap*i.bytes≤281474976710656:=growslice_fits hcap (by
   rw[pM]
   exact Sy (Tc hlen iM) (by decide))
  have bm:=run_append_grow_src w t u o.type el i zv ht hi mI base xs.length cap dZ (hold _ rfl) (a.eval y) ys.length news (jT▸hs) hcap (by omega) cf
  rw[←pO]at bm
  refine⟨_,_,eA bm,?_⟩
  have hx:Ext w w.drew:=Ext.drew w
  have uh:=grownCap_ge w (xs.length+ys.length) cap el
  have gM:zv.cells.size=sz:=by
   obtain⟨_,zv',lj,E7,_⟩:=uf (C:=C) hz
   have:=lj w
   simp[zeroValue,typeInfo,hi,mI]at this
   subst this
   have:=E7.length
   simp at this
   omega
  have ez:=Mf (d:=d) (tmps:=a.tmps) (m.ext hx) (e.ext hx) ((dZ++news).toArray++Builtin.zeroCells zv.cells (grownCap w (xs.length+ys.length) cap el-(xs.length+ys.length))) el (xs++ys) sz (grownCap w (xs.length+ys.length) cap el) (dZ++news)
   (by rw[List.flatMap_append];exact aM.append wW cH) (by
    intro j v hj
    rw[Array.getElem?_append_left (by simpa using(Hb.1 hj).1)]
    simpa using hj) (by
    intro v hv
    rcases N0.1 hv with hv|hv
    ·exact E6 v hv
    ·exact cI v hv) (by
    intro x hx
    rcases N0.1 hx with hx|hx
    ·exact od x hx
    ·exact fi x hx) (by rw[St];exact uh) (by
    have ho:=wW.length
    rw[lm xs od]at ho
    simp[Builtin.zeroCells,gM,ho,mJ]
    rw[←R5,←R5]
    exact Sc _ (by omega)) (kg env x')
  rw[St]at ez
  exact ez
 rcases rx.cG with⟨rfl,rfl,hx⟩|⟨rfl,r,q,cap,hx,hle,cM⟩|⟨rfl,rfl,ad,lW,hx⟩
 rotate_right
 ·exact absurd (q4y e h1 (by rcases cB with h|h<;>first|cases h|exact h) e1 hx) lW
 ·-- nil
  cases ys with
  |nil=>
   have:news=[]:=by cases cH;rfl
   subst this
   refine⟨.slice E0 0 0,w,eA ?_,C,ω,ay.le_refl C,m,e.strip _,by simpa[pF]using qp.iI 0,fun _=>trivial⟩
   rw[hx]
   exact qmh ht hi _ (jT▸hs)
  |cons y1 ys1=>
   have:=grow E0 0 [] hx (by simp) (fun w' _=>run_firstCells_none w' _ _ _ _) .nil (by simp) (by simp)
   simpa[pF]using this
 ·-- own
  rw[show pF Gb sz xs ys=.list Gb sz (xs++ys)from rfl]
  have E9:(kg env x').isSome=Ef:=by rcases cB with h|h<;>first|cases h|exact h
  obtain⟨s,gA⟩:=N1.1 E9
  obtain⟨fh,v0,hl⟩:=E5 gA
  obtain rfl:sz=cK:=by rcases zK with h|⟨_,h⟩<;>first|exact h|cases h
  have iO:v0=.list Gb sz xs:=by
   subst fh
   simp only[zc,hl]at e1
   exact I.inj e1
  subst iO
  obtain⟨cv,wV,Mi,zJ⟩:=e s _ hl
  have oc:cv=.slice (I ⟨r,q,E0⟩) xs.length cap:=by
   have ib:zq x=I (.tmp s):=by rw[h1,fh]
   cases x with
   |tmp t'=>
    simp only[zq]at ib
    cases ib
    have:a.eval (.tmp s)=cv:=by simp[Act.eval,Ge,wV]
    rw[←this,hx]
   |const u=>simp only[zq]at ib;split at ib<;>cases ib
   |func f=>simp[zq]at ib
   |global g=>simp[zq]at ib
  subst oc
  obtain⟨hω,hB,hβ,_,Mj,⟨cells,te,hg,cf,_⟩,hK⟩:=zJ rfl
  simp only at hω hB hβ hg cf hK
  obtain⟨dZ,Fc,ho2⟩:=bZ.vals cM.cells
  have od:=cM.sized
  by_cases dR:xs.length+ys.length≤cap
  ·-- there is room
   have fZ:(xs.length+ys.length)*sz≤cap*sz:=Sc _ dR
   rw[R5]at fZ
   have bm:=Sn (P:=P) (w:=w) (ty:=o.type) ht hi r q xs.length cap (a.eval y) ys.length news (jT▸hs) dR hg (by rw[jT,mJ];omega)
   rw[←hx]at bm
   obtain⟨m',e',cz⟩:=qvt (d:=d) (tmps:=a.tmps) m e (r:=r) (q:=q+xs.length*sz) (news:=news) hω hB hβ hg (by rw[mJ];omega) hK cI
   rw[jT]at bm
   rw[gA]
   refine⟨_,_,eA bm,_,_,cz,m',e',?_,?_⟩
   ·have pP:aX (C.put r (q+xs.length*sz) news) r sz (xs++ys) q:=aX.append (qp.mono cz cM) (aX.et (ay.eK hK cH) fi)
    have:=qp.list sz (xs++ys) r q cap (by simpa using dR) pP
    simpa using this
   ·intro _
    have hall:∀x∈xs++ys,x.flat.length=sz:=fun x hx=>by
     rcases N0.1 hx with hx|hx
     ·exact od x hx
     ·exact fi x hx
    refine⟨by simp[ct],hB,hβ,rfl,Mj,⟨_,te,setRow_heap w r cells _ te (0,0) hg,?_,eu.sized hall⟩,?_⟩
    ·simp;omega
    ·intro p hp
     rw[R5]at hp
     simp only[ay.put]
     simp only at hp
     rw[if_neg (by rw[mJ];omega)]
     exact hK p (by omega)
  ·-- there is none
   have fY:∀v∈dZ,v.oneCell'=Ef:=fun v hv=>by
    obtain⟨j,hj⟩:=Nf hv
    exact m.cR _ _ _ (ho2 j v hj)
   have So:dZ.length=xs.length*i.size:=by rw[Fc.length,lm xs od,jT]
   have:=grow (I ⟨r,q,E0⟩) cap dZ hx (by omega) (fun w' Sm=>run_firstCells_some w' _ _ _ _ _ dZ So (fun j v hj=>by
    subst Sm
    rw[add_lit]
    have:=m.know _ _ _ (ho2 j v hj)
    simpa using this)) Fc fY od
   simpa using this
end
structure jk (w w':World)(r:Nat):Prop where
 size:w'.heap.size=w.heap.size
 other:∀k,k≠r→w'.heap[k]?=w.heap[k]?
 fz:∀c t fr,w'.heap[r]?=I (.cells c t fr)→fr=(0,0)
 os:w'.os=w.os
 output:w'.output=w.output
theorem jm.ia {w w':World}{r:Nat}{cs:Array Value}(h:jm w w' r cs):jk w w' r:=
 ⟨h.size,h.other,fun c t fr hc=>by obtain⟨t',ht⟩:=h.at_;rw[ht]at hc;cases hc;rfl,h.os,h.output⟩
section
variable {P:Program}{C C0:ay}{ω:Nat→Option Loc}{w w' w0:World}{hp:j8}{env:Env}{a:Act}{o:Oper}{tmps:Array Value}{d:Loc}
theorem aF.di {B b r:Nat}{ℓ:Loc}{x:qa}{v:Value}(hu:jk w w' r)(hb:C.β b=I r)(ho:aF C ω w B ℓ x v):aF C ω w' B ℓ x v:=by
 unfold aF at *
 split at ho
 ·obtain⟨h1,h2,h3,h4,h8,⟨cells,elem,h5,h6⟩,h7⟩:=ho
  refine⟨h1,h2,h3,h4,h8,⟨cells,elem,?_,h6⟩,h7⟩
  rw[hu.other _ (fun h=>h3 b (by rw[h];exact hb))]
  exact h5
 ·obtain⟨h1,h2,h3,h4,h8,⟨cells,elem,h5,h6⟩,h7⟩:=ho
  refine⟨h1,h2,h3,h4,h8,⟨cells,elem,?_,h6⟩,h7⟩
  rw[hu.other _ (fun h=>h3 b (by rw[h];exact hb))]
  exact h5
 ·trivial
theorem aj.di {B b r:Nat}(hu:jk w w' r)(hb:C.β b=I r)(e:aj C ω w B env tmps):aj C ω w' B env tmps:=
 fun s x hx=>let ⟨v,h1,h2,h3⟩:=e s x hx; ⟨v,h1,h2,fun h=>(h3 h).di hu hb⟩
theorem br.di {B b b' r r':Nat}{x:qn}(hu:jk w w' r)(hb:C.β b=I r)(bA:r'≠r)(h:br P C ω w B b' r' x):br P C ω w' B b' r' x:=by
 have hg:=hu.other r' bA
 cases x with
 |hole=>exact h
 |cells dV=>
  obtain⟨vs,elem,h1,h2,h3⟩:=h
  exact⟨vs,elem,by rw[hg];exact h1,h2,fun j c hc=>let ⟨v,a,q,b,d⟩:=h3 j c hc; ⟨v,a,q,b,fun e=>(d e).di hu hb⟩⟩
 |map es=>obtain⟨bQ,clock,h1,h2⟩:=h;exact⟨bQ,clock,by rw[hg];exact h1,h2⟩
 |iter s pos=>show w'.heap[r']?=_;rw[hg];exact h
 |loop l=>obtain⟨lp,h1,h2⟩:=h;exact⟨lp,by rw[hg];exact h1,h2⟩
 |fE t e l=>obtain⟨p,v,h1,h2,h3,h4⟩:=h;exact⟨p,v,by rw[hg];exact h1,h2,h3,h4.di hu hb⟩
 |dead=>obtain⟨cs,t,h1⟩:=h;exact⟨cs,t,by rw[hg];exact h1⟩
 |vec sz bz xs=>exact dH.imp (fun _ _ _ h=>h) (fun _ h=>h) (fun _ h _=>h) hg (fun q n cap k=>⟨hu.other q (fun hq=>k.2.2.1 b (by rw[hb];exact congrArg I hq.symm)),k.di hu hb⟩) h
theorem av.dx {ω':Nat→Option Loc}(m:av P C ω w0 C0 hp w){b r:Nat}(hu:jk w w' r)(hb:C.β b=I r)(x':qn)(hω:∀b' j y v,b'≠b→aF C ω w w0.heap.size (.cell b' j) y v→aF C ω' w w0.heap.size (.cell b' j) y v)
  (ga:br P C ω' w' w0.heap.size b r x'):av P C ω' w0 C0 (hp.set b x') w':=by
 have hfr:=m.fresh b r hb
 have Dq:w.heap[r]?≠I (.deferred (I [])):=by
  obtain⟨x,hx⟩:=Hq (m.lt b r hb).2▸(⟨_,rfl⟩:∃x,I (hp[b]'(m.lt b r hb).2)=I x)
  have h0:=m.box b x r hx hb
  intro h
  cases x with
  |hole=>exact h0
  |cells cs=>obtain⟨vs,elem,h1,_⟩:=h0;rw[h]at h1;cases h1
  |map es=>obtain⟨bQ,clock,h1,_⟩:=h0;rw[h]at h1;cases h1
  |iter s pos=>have h1:w.heap[r]?=_:=h0;rw[h]at h1;cases h1
  |loop l=>obtain⟨lp,h1,_⟩:=h0;rw[h]at h1;cases h1
  |fE t e l=>obtain⟨p,v,h1,_⟩:=h0;rw[h]at h1;cases h1
  |dead=>obtain⟨cs,t,h1⟩:=h0;rw[h]at h1;cases h1
  |vec sz bz xs=>obtain⟨_,_,_,_,_,_,cs,t,h1⟩:=h0;rw[h]at h1;cases h1
 refine { base:=m.base,know:=?_,cR:=m.cR,apart:=m.apart,inj:=m.inj,lt:=?_,size:=?_,frame:=?_,eN:=?_,os:=hu.os.trans m.os,output:=hu.output.trans m.output,fresh:=m.fresh,grown:=m.grown,old:=m.old,box:=?_,gY:=fun q hq=>by rw[hu.size];exact m.gY q hq }
 ·intro k p v hk
  have bA:k≠r:=fun h=>by rw[h,m.apart b r p hb]at hk;cases hk
  have hc:=m.know _ _ _ hk
  simp only[World.cell?]at hc ⊢
  rw[hu.other k bA]
  exact hc
 ·intro k p hk
  rw[hu.size,N3];exact m.lt k p hk
 ·rw[hu.size];exact m.size
 ·intro k hk hn hw
  by_cases gN:k=r
  ·subst gN
   rcases hfr with h|h|h
   ·exact absurd h (hn b)
   ·omega
   ·exact absurd h hw
  ·rw[hu.other k gN];exact m.frame k hk hn hw
 ·intro k hk
  have gN:k≠r:=fun h=>Dq (h▸m.eN k hk)
  rw[hu.other k gN];exact m.eN k hk
 ·intro k x p hx hk
  by_cases lu:k=b
  ·subst lu
   rw[hb]at hk
   cases hk
   rw[Mu (m.lt k _ hb).2]at hx
   cases hx
   exact ga
  ·rw[Ny (Ne.symm lu)]at hx
   have ub:p≠r:=fun h=>lu (m.inj k b p hk (h▸hb))
   have h0:=m.box k x p hx hk
   exact((h0.di hu hb ub).mono (ω':=ω') (ay.le_refl C) (fun j y v ho=>by
    have:=hω k j y v lu
    -- the ownerships of other boxes,in the new world
    unfold aF at ho this ⊢
    split at ho
    ·obtain⟨h1,h2,h3,h4,h8,⟨cells,elem,h5,h6⟩,h7⟩:=ho
     rename_i ad len cap
     have ln:ad.block≠r:=fun h=>h3 b (h▸hb)
     rw[hu.other _ ln]at h5
     obtain⟨k1,_⟩:=this ⟨h1,h2,h3,h4,h8,⟨cells,elem,h5,h6⟩,h7⟩
     exact⟨k1,h2,h3,h4,h8,⟨cells,elem,by rw[hu.other _ ln];exact h5,h6⟩,h7⟩
    ·obtain⟨h1,h2,h3,h4,h8,⟨cells,elem,h5,h6⟩,h7⟩:=ho
     rename_i ad
     have ln:ad.block≠r:=fun h=>h3 b (h▸hb)
     rw[hu.other _ ln]at h5
     obtain⟨k1,_⟩:=this ⟨h1,h2,h3,h4,h8,⟨cells,elem,h5,h6⟩,h7⟩
     exact⟨k1,h2,h3,h4,h8,⟨cells,elem,by rw[hu.other _ ln];exact h5,h6⟩,h7⟩
    ·trivial))
theorem br.read {B b r off n:Nat}{cs:List (qa×Bool)}{us:List qa}(h:br P C ω w B b r (.cells cs))(hl:y8 cs off n=I us):
  ∃vs,aM C us vs∧us.length=n∧vs.length=n∧(∀j v,vs[j]?=I v→w.cell? ⟨r,off+j,E0⟩=I v)∧∀v∈vs,v.oneCell'=Ef:=by
 unfold y8 at hl
 cases hb:Nat.ble (off+n) cs.length with
 |false=>simp[hb]at hl
 |true=>
  simp only[hb,cT,I.injEq]at hl
  subst hl
  have hle:=R9 hb
  obtain⟨vs,elem,h1,h2,h3⟩:=h
  have key:∀(n off:Nat),off+n≤cs.length→∃ws:List Value,aM C (((cs.drop off).take n).map (·.1)) ws∧ws.length=n∧∀j v,ws[j]?=I v→vs[off+j]?=I v∧v.oneCell'=Ef:=by
   intro n
   induction n with
   |zero=>intro off _;exact⟨[],by simpa using qp.nil,rfl,by simp⟩
   |succ n ih=>
    intro off hle
    obtain⟨ws,i1,i2,i3⟩:=ih (off+1) (by omega)
    have aY:off<cs.length:=by omega
    obtain⟨v,j1,j2,j3,_⟩:=h3 off cs[off] (Hq aY)
    refine⟨v::ws,?_,by simp[i2],?_⟩
    ·rw[List.drop_eq_getElem_cons aY]
     exact .cons _ _ _ _ j3 i1
    ·intro j u hj
     cases j with
     |zero=>simp at hj;subst hj;exact⟨j1,j2⟩
     |succ j=>simp at hj;rw[show off+(j+1)=off+1+j from by omega];exact i3 j u hj
  obtain⟨ws,k1,k2,k3⟩:=key n off hle
  refine⟨ws,k1,by simp;omega,k2,?_,?_⟩
  ·intro j v hj
   have:=(k3 j v hj).1
   simp[World.cell?,h1,this]
  ·intro v hv
   obtain⟨j,hj⟩:=Nf hv
   exact(k3 j v hj).2
theorem Fe {t:TypeId}{n r off:Nat}{vs:List Value}(hg:fc P t=I Ef)(hn:yg P t=I n)(hl:vs.length=n)(hc:∀j v,vs[j]?=I v→w.cell? ⟨r,off+j,E0⟩=I v):
  (loadVar t ⟨r,off,E0⟩).run P w=.ok (.agg ⟨vs⟩) w:=by
 have:=run_loadCells_list (P:=P) w ⟨r,off,E0⟩ vs (fun j v hj=>by rw[add_lit];exact hc j v hj)
 rw[hl]at this
 simp[loadVar,Dn hg,iL hn,this]
theorem Ff {t:TypeId}{r off:Nat}{v:Value}(hg:fc P t=I Gb)(hc:w.cell? ⟨r,off,E0⟩=I v):(loadVar t ⟨r,off,E0⟩).run P w=.ok v w:=by
 simp[loadVar,Dn hg,hc]
theorem Sp (m:av P C ω w0 C0 hp w)(he:aW C env a.tmps){t:TypeId}{x:Operand}{x':qh}{n:Nat}{ag:Bool}{p v:qa}(ho:o.op=.load t x)(hg:fc P t=I ag)(hn:yg P t=I n)(Fg:ag=Gb→n=1)(h1:zq x=I x')(e1:zc env x'=I p)
  (hv:(∃b q cs us,p=.ptr b q∧ym hp b=I cs∧y8 cs q n=I us∧((ag=Ef∧v=.agg us)∨(ag=Gb∧us=[v])))∨(p=.ah v∧Bool.xor ag v.isAgg=Gb∧v.flat.length=n)):Val P C a o w v:=by
 rcases hv with⟨b,q,cs,us,rfl,kP,hl,hv⟩|⟨rfl,hx,vn⟩
 ·obtain⟨r,hr,hq⟩:=(zt he h1 e1).cW
  have gd:hp[b]?=I (.cells cs):=by
   unfold ym at kP
   split at kP
   ·rename_i dV h;cases kP;exact h
   ·cases kP
  obtain⟨vs,k1,_,k2,k3,_⟩:=(m.box b _ r gd hr).read hl
  rcases hv with⟨rfl,rfl⟩|⟨rfl,rfl⟩
  ·exact⟨.agg ⟨vs⟩,by simp[execOp,ho,Instr.loadAt,hq,Instr.sureAddr,Fe hg hn k2 k3],.agg _ _ k1⟩
  ·cases k1 with
   |cons _ _ u us hu jR=>
    cases jR
    refine⟨u,?_,hu⟩
    have:=Ff (P:=P) hg (by simpa using k3 0 u rfl)
    simp[execOp,ho,Instr.loadAt,hq,Instr.sureAddr,this]
 ·obtain⟨r,q,hq,hc⟩:=(zt he h1 e1).ew
  obtain⟨vs,k1,k2⟩:=bZ.vals hc
  have hl:vs.length=n:=by rw[k1.length,vn]
  have k3:∀j u,vs[j]?=I u→w.cell? ⟨r,q+j,E0⟩=I u:=fun j u hj=>m.know _ _ _ (k2 j u hj)
  cases ag with
  |true=>
   cases v<;>simp[qa.isAgg]at hx
   exact⟨.agg ⟨vs⟩,by simp[execOp,ho,Instr.loadAt,hq,Instr.sureAddr,Fe hg hn hl k3],.agg _ _ k1⟩
  |false=>
   rw[qc0 (by simpa using hx)]at k1
   cases k1 with
   |cons _ _ u us hu jR=>
    cases jR
    refine⟨u,?_,hu⟩
    have:=Ff (P:=P) hg (by simpa using k3 0 u rfl)
    simp[execOp,ho,Instr.loadAt,hq,Instr.sureAddr,this]
def ay.box (C:ay)(b r:Nat):ay:={ C with β:=fun k=>if k=b then I r else C.β k }
theorem ay.jU {b r:Nat}(h:C.β b=E0):C.le (C.box b r):=
 ⟨fun _ _ _ h=>h,fun k p hk=>by
  simp only[ay.box]
  rw[if_neg (fun hb=>by rw[hb,h]at hk;cases hk)]
  exact hk,rfl,fun _ h=>h,fun _ h=>h⟩
theorem aF.box {B b r:Nat}{ℓ:Loc}{x:qa}{v:Value}(hr:w.heap.size≤r∨ω r≠I ℓ)(ho:aF C ω w B ℓ x v):aF (C.box b r) ω w B ℓ x v:=by
 unfold aF at *
 split at ho
 ·rename_i ad len cap
  obtain⟨h1,h2,h3,h4,h8,⟨cells,elem,h5,h6⟩,h7⟩:=ho
  have aY:ad.block<w.heap.size:=(Ha.1 h5).1
  refine⟨h1,h2,fun k hk=>?_,h4,h8,⟨cells,elem,h5,h6⟩,h7⟩
  simp only[ay.box]at hk
  split at hk
  ·have hE:r=ad.block:=I.inj hk
   rcases hr with hr|hr
   ·omega
   ·exact hr (hE▸h1)
  ·exact h3 k hk
 ·rename_i ad
  obtain⟨h1,h2,h3,h4,h8,⟨cells,elem,h5,h6⟩,h7⟩:=ho
  have aY:ad.block<w.heap.size:=(Ha.1 h5).1
  refine⟨h1,h2,fun k hk=>?_,h4,h8,⟨cells,elem,h5,h6⟩,h7⟩
  simp only[ay.box]at hk
  split at hk
  ·have hE:r=ad.block:=I.inj hk
   rcases hr with hr|hr
   ·omega
   ·exact hr (hE▸h1)
  ·exact h3 k hk
 ·trivial
theorem lv {h0 rk:Nat}{x:qn}{h':j8}(h:aJ h0 hp rk x=I h'):hp[h0+rk]?=I .hole∧h'=hp.set (h0+rk) x:=by
 unfold aJ at h
 split at h
 ·rename_i hh;cases h;exact⟨hh,rfl⟩
 ·cases h
theorem Fh (m:av P C ω w0 C0 hp w){b:Nat}(h:hp[b]?=I .hole):C.β b=E0:=by
 cases hb:C.β b with
 |none=>rfl
 |some r=>exact(m.box b .hole r h hb).elim
theorem av.aJ (m:av P C ω w0 C0 hp w)(e:aj C ω w w0.heap.size env tmps){b:Nat}(hh:hp[b]?=I .hole)(obj:Obj)(Sr:∀c t fr,obj=.cells c t fr→fr=(0,0))(x:qn)
  (ga:∀C' ω' w',C.le C'→w'.heap[w.heap.size]?=I obj→br P C' ω' w' w0.heap.size b w.heap.size x):
  av P (C.box b w.heap.size) ω w0 C0 (hp.set b x) (w.alloc obj)∧aj (C.box b w.heap.size) ω (w.alloc obj) w0.heap.size env tmps∧C.le (C.box b w.heap.size):=by
 have hx:Ext w (w.alloc obj):=Ext.alloc w obj Sr
 have hβ:=Fh m hh
 have hle:=ay.jU (C:=C) (r:=w.heap.size) hβ
 have m':=m.ext hx
 have aY:b<hp.length:=(Hb.1 hh).1
 refine⟨{ m' with apart:=?_,inj:=?_,lt:=?_,fresh:=?_,grown:=ay.le_trans m.grown hle,box:=?_ },?_,hle⟩
 ·intro k r q hk
  simp only[ay.box]at hk
  split at hk
  ·cases hk;exact m.jC _ (Gm _) q
  ·exact m.apart k r q hk
 ·intro k k' r hk eC
  simp only[ay.box]at hk eC
  split at hk<;>split at eC
  ·rename_i h1 h2;rw[h1,h2]
  ·cases hk;have:=(m.lt k' _ eC).1;omega
  ·cases eC;have:=(m.lt k _ hk).1;omega
  ·exact m.inj k k' r hk eC
 ·intro k r hk
  rw[N3]
  simp only[ay.box]at hk
  split at hk
  ·rename_i h1;cases hk;subst h1;exact⟨by rw[World.size_alloc];omega,aY⟩
  ·have:=m.lt k r hk;exact⟨by rw[World.size_alloc];omega,this.2⟩
 ·intro k r hk
  simp only[ay.box]at hk
  split at hk
  ·cases hk;exact .inr (.inl m.size)
  ·exact m.fresh k r hk
 ·intro k y r hy hk
  simp only[ay.box]at hk
  split at hk
  ·rename_i h1
   subst h1
   cases hk
   rw[Mu aY]at hy
   cases hy
   exact ga _ _ _ hle (by rw[vk,if_pos rfl])
  ·rename_i h1
   rw[Ny (Ne.symm h1)]at hy
   exact((m.box k y r hy hk).mono (ω':=ω) hle fun j z v ho=>ho.box (.inl (Gm _))).ext hx
 ·exact fun s y hy=>let ⟨v,h1,h2,h3⟩:=e s y hy; ⟨v,h1,qp.mono hle h2,fun h=>((h3 h).box (.inl (Gm _))).ext hx⟩
theorem aF.Fi {B b r:Nat}{ℓ:Loc}{x:qa}{v:Value}(hr:∀cs t fr,w.heap[r]?≠I (.cells cs t fr))(ho:aF C ω w B ℓ x v):aF (C.box b r) ω w B ℓ x v:=by
 unfold aF at *
 split at ho
 ·rename_i ad len cap
  obtain⟨h1,h2,h3,h4,h8,⟨cells,elem,h5,h6⟩,h7⟩:=ho
  refine⟨h1,h2,fun k hk=>?_,h4,h8,⟨cells,elem,h5,h6⟩,h7⟩
  simp only[ay.box]at hk
  split at hk
  ·have hE:r=ad.block:=I.inj hk
   exact absurd (hE▸h5) (hr _ _ _)
  ·exact h3 k hk
 ·rename_i ad
  obtain⟨h1,h2,h3,h4,h8,⟨cells,elem,h5,h6⟩,h7⟩:=ho
  refine⟨h1,h2,fun k hk=>?_,h4,h8,⟨cells,elem,h5,h6⟩,h7⟩
  simp only[ay.box]at hk
  split at hk
  ·have hE:r=ad.block:=I.inj hk
   exact absurd (hE▸h5) (hr _ _ _)
  ·exact h3 k hk
 ·trivial
theorem av.Fj (m:av P C ω w0 C0 hp w)(e:aj C ω w w0.heap.size env tmps){b q:Nat}{es:List (qa×qa)}{bQ:Array MapEntry}{clock:Nat}(hh:hp[b]?=I .hole)(hg:w.heap[q]?=I (.map bQ clock))(hq:∀k,C.β k≠I q)(hb:w0.heap.size≤q)(hr:qy C es bQ.toList):
  av P (C.box b q) ω w0 C0 (hp.set b (.map es)) w∧aj (C.box b q) ω w w0.heap.size env tmps∧C.le (C.box b q):=by
 have hβ:=Fh m hh
 have hle:=ay.jU (C:=C) (r:=q) hβ
 have aY:b<hp.length:=(Hb.1 hh).1
 have kQ:∀cs t fr,w.heap[q]?≠I (.cells cs t fr):=fun cs t fr h=>by rw[hg]at h;cases h
 refine⟨{ m with apart:=?_,inj:=?_,lt:=?_,fresh:=?_,grown:=ay.le_trans m.grown hle,box:=?_ },?_,hle⟩
 ·intro k r o hk
  simp only[ay.box]at hk
  split at hk
  ·cases hk
   show C.K q o=E0
   cases hK:C.K q o with
   |none=>rfl
   |some v=>
    have:=m.know q o v hK
    simp[World.cell?,hg]at this
  ·exact m.apart k r o hk
 ·intro k k' r hk eC
  simp only[ay.box]at hk eC
  split at hk<;>split at eC
  ·rename_i h1 h2;rw[h1,h2]
  ·cases hk;exact absurd eC (hq k')
  ·cases eC;exact absurd hk (hq k)
  ·exact m.inj k k' r hk eC
 ·intro k r hk
  rw[N3]
  simp only[ay.box]at hk
  split at hk
  ·rename_i h1;cases hk;subst h1;exact⟨(Ha.1 hg).1,aY⟩
  ·exact m.lt k r hk
 ·intro k r hk
  simp only[ay.box]at hk
  split at hk
  ·cases hk;exact .inr (.inl hb)
  ·exact m.fresh k r hk
 ·intro k y r hy hk
  simp only[ay.box]at hk
  split at hk
  ·rename_i h1
   subst h1
   cases hk
   rw[Mu aY]at hy
   cases hy
   exact⟨bQ,clock,hg,hr.mono hle⟩
  ·rename_i h1
   rw[Ny (Ne.symm h1)]at hy
   exact(m.box k y r hy hk).mono (ω':=ω) hle fun j z v ho=>ho.Fi kQ
 ·exact fun s y hy=>let ⟨v,h1,h2,h3⟩:=e s y hy; ⟨v,h1,qp.mono hle h2,fun h=>(h3 h).Fi kQ⟩
theorem Ss {xs:List qa}{vs:List Value}{t:TypeId}{B b r:Nat}{cells:Array Value}(hr:aM C xs vs)(hs:∀x∈xs,ze x=Ef)(hv:∀(j:Nat) v,vs[j]?=I v→cells[j]?=I v)(hl:xs.length≤cells.size):
  ∀C' ω' w',C.le C'→w'.heap[r]?=I (.cells cells t (0,0))→br P C' ω' w' B b r (.cells (cellsOf xs)):=by
 intro C' ω' w' hle hg
 refine⟨cells,t,hg,by simpa[cellsOf]using hl,?_⟩
 intro j c hc
 simp only[cellsOf,Sz,Option.map_eq_some_iff]at hc
 obtain⟨x,hx,rfl⟩:=hc
 obtain⟨v,h1,h2⟩:=hr.get hx
 exact⟨v,hv j v h1,Sl h2 (hs x (My hx)),qp.mono hle h2,by simp⟩
theorem jaz (m:av P C ω w0 C0 hp w)(e:aj C ω w w0.heap.size env a.tmps){t:TypeId}{z:List qa}{h0 rk:Nat}{h':j8}(ho:o.op=.alloc t)(hz:ek P t=I z)(hs:∀x∈z,ze x=Ef)(hn:aJ h0 hp rk (.cells (cellsOf z))=I h'):
  ∃v w',(execOp a.eval o).run P w=.ok (.value v) w'∧kf P C0 w0 C a.tmps d env ⟨.ptr (h0+rk) 0,Gb,E0,h'⟩ v w':=by
 obtain⟨hh,rfl⟩:=lv hn
 obtain⟨_,zv,kM,cw,lj⟩:=uf (C:=C) hz
 obtain⟨m',e',hle⟩:=m.aJ e hh (.cells zv.cells t) (fun c t fr h=>by cases h;rfl) (.cells (cellsOf z)) (Ss cw hs (fun j v h=>by simpa using h) (by have:=cw.length;simp at this;omega))
 refine⟨.pointer (I ⟨w.heap.size,0,E0⟩),_,?_,_,_,hle,m',e',.ptr _ _ _ (by simp[ay.box]),by simp⟩
 simp[execOp,ho,Instr.alloc,kM,newVar,newRow]
theorem jm4 (m:av P C ω w0 C0 hp w)(e:aj C ω w w0.heap.size env a.tmps){t:TypeId}{x:Operand}{x':qh}{v:qa}{h0 rk:Nat}{h':j8}(ho:o.op=.box t x)(h1:zq x=I x')(e1:zc env x'=I v)(hs:v.flat.all ze=Ef)
  (hn:aJ h0 hp rk (.cells (cellsOf v.flat))=I h'):
  ∃v w',(execOp a.eval o).run P w=.ok (.value v) w'∧kf P C0 w0 C a.tmps d env ⟨.ptr (h0+rk) 0,Gb,E0,h'⟩ v w':=by
 obtain⟨hh,rfl⟩:=lv hn
 have hr:=zE (zt e.bV h1 e1) hs
 obtain⟨m',e',hle⟩:=m.aJ e hh (.cells (a.eval x).cells t) (fun c t fr h=>by cases h;rfl) (.cells (cellsOf v.flat)) (Ss hr (by simpa using hs) (fun j v h=>by simpa using h) (by have:=hr.length;simp at this;omega))
 refine⟨.pointer (I ⟨w.heap.size,0,E0⟩),_,?_,_,_,hle,m',e',.ptr _ _ _ (by simp[ay.box]),by simp⟩
 simp[execOp,ho,Instr.box,newVar,newRow]
theorem jfg (m:av P C ω w0 C0 hp w)(e:aj C ω w w0.heap.size env a.tmps){t:TypeId}{x:Operand}{x':qh}{v:qa}(ho:o.op=.box t x)(h1:zq x=I x')(e1:zc env x'=I v)(hs:v.flat.all ze=Ef):
  ∃u w',(execOp a.eval o).run P w=.ok (.value u) w'∧kf P C0 w0 C a.tmps d env ⟨.ah v,Gb,E0,hp⟩ u w':=by
 have hr:=zE (zt e.bV h1 e1) hs
 have hx:Ext w (w.alloc (.cells (a.eval x).cells t)):=Ext.alloc w _ (fun c t fr h=>by cases h;rfl)
 have hn:∀o,0≤o→C.K w.heap.size o=E0:=fun o _=>m.jC _ (Gm _) o
 have m':=m.newRow (a.eval x).cells t (a.eval x).cells.toList (fun j v h=>by simpa using h) (zG hr (fun y hy=>S6.1 hs y hy))
 refine⟨.pointer (I ⟨w.heap.size,0,E0⟩),_,?_,_,ω,ay.fX _ hn,m',(e.put _ (.inl (Gm _)) hn).ext hx,.ah _ _ _ (ay.eK hn hr),by simp⟩
 simp[execOp,ho,Instr.box,newVar,newRow]
theorem jm8 (m:av P C ω w0 C0 hp w)(e:aj C ω w w0.heap.size env a.tmps){t:TypeId}{e' sz:Nat}{h0 rk:Nat}{h':j8}(ho:o.op=.alloc t)(hz:ek P t=I [.bO,.list Ef sz []])(hn:aJ h0 hp rk (.fE t e' [])=I h'):
  ∃v w',(execOp a.eval o).run P w=.ok (.value v) w'∧kf P C0 w0 C a.tmps d env ⟨.ptr (h0+rk) 0,Gb,E0,h'⟩ v w':=by
 obtain⟨hh,rfl⟩:=lv hn
 obtain⟨_,zv,kM,cw,lj⟩:=uf (C:=C) hz
 have hzc:zv.cells=#[.pointer E0,.slice E0 0 0]:=by
  apply Tb
  generalize zv.cells.toList=vs at cw
  cases cw with
  |cons _ _ v vs h1 h2=>
   cases h2 with
   |cons _ _ u us h3 h4=>
    cases h4
    cases h1
    cases h3
    rfl
 obtain⟨m',e',hle⟩:=m.aJ e hh (.cells zv.cells t) (fun c t fr h=>by cases h;rfl) (.fE t e' []) (fun C' ω' w' _ hg=>⟨.pointer E0,.slice E0 0 0,by rw[hzc]at hg;exact hg,.inl rfl,.inl ⟨rfl,rfl⟩,trivial⟩)
 refine⟨.pointer (I ⟨w.heap.size,0,E0⟩),_,?_,_,_,hle,m',e',.ptr _ _ _ (by simp[ay.box]),by simp⟩
 simp[execOp,ho,Instr.alloc,kM,newVar,newRow]
theorem jbl (m:av P C ω w0 C0 hp w)(e:aj C ω w w0.heap.size env a.tmps){t:TypeId}{h0 rk:Nat}{h':j8}(ho:o.op=.makeMap t E0)(hn:aJ h0 hp rk (.map [])=I h'):
  ∃v w',(execOp a.eval o).run P w=.ok (.value v) w'∧kf P C0 w0 C a.tmps d env ⟨.map (h0+rk),Gb,E0,h'⟩ v w':=by
 obtain⟨hh,rfl⟩:=lv hn
 obtain⟨m',e',hle⟩:=m.aJ e hh (.map #[] 0) (fun c t fr h=>by cases h) (.map []) (fun C' ω' w' _ hg=>⟨#[],0,hg,.nil⟩)
 refine⟨.map (I w.heap.size),_,?_,_,_,hle,m',e',.map _ _ (by simp[ay.box]),by simp⟩
 simp[execOp,ho,Instr.makeMap]
theorem q7g (m:av P C ω w0 C0 hp w)(e:aj C ω w w0.heap.size env a.tmps){t:TypeId}{x:Operand}{x':qh}{s:List UInt8}{h0 rk:Nat}{h':j8}(ho:o.op=.range t x)(ht:P.underlying t=I .string)(h1:zq x=I x')(e1:zc env x'=I (.str s))(hn:aJ h0 hp rk (.iter s 0)=I h'):
  ∃v w',(execOp a.eval o).run P w=.ok (.value v) w'∧kf P C0 w0 C a.tmps d env ⟨.ptr (h0+rk) 0,Gb,E0,h'⟩ v w':=by
 obtain⟨hh,rfl⟩:=lv hn
 have hs:=(zt e.bV h1 e1).bX
 obtain⟨m',e',hle⟩:=m.aJ e hh (.stringIter ⟨⟨s⟩⟩ 0) (fun c t fr h=>by cases h) (.iter s 0) (fun C' ω' w' _ hg=>hg)
 refine⟨.pointer (I ⟨w.heap.size,0,E0⟩),_,?_,_,_,hle,m',e',.ptr _ _ _ (by simp[ay.box]),by simp⟩
 simp[execOp,ho,Instr.range,run_underlying ht,hs]
end
section
variable {P:Program}{C C0:ay}{ω:Nat→Option Loc}{w w' w0:World}{hp:j8}{env:Env}{a:Act}{o:Oper}{tmps:Array Value}{d:Loc}
def ui (ω:Nat→Option Loc)(x:qa)(v:Value)(ℓ:Loc):Nat→Option Loc:=
 match x,v with
 | .list ..,.slice (I ad) _ _=>ct ω ad.block ℓ
 | .cE _,.pointer (I ad)=>ct ω ad.block ℓ
 |_,_=>ω
theorem wX {B:Nat}{ℓ0 ℓ ℓ':Loc}{x z:qa}{cv u:Value}(h0:aF C ω w B ℓ0 x cv)(bA:ℓ≠ℓ0)(hz:aF C ω w B ℓ z u):aF C (ui ω x cv ℓ') w B ℓ z u:=by
 unfold ui
 split
 ·rename_i ad l c
  have hω:ω ad.block=I ℓ0:=h0.1
  exact hz.other (.inl (by rw[hω];intro h;exact bA (I.inj h).symm))
 ·rename_i n ad
  have hω:ω ad.block=I ℓ0:=h0.1
  exact hz.other (.inl (by rw[hω];intro h;exact bA (I.inj h).symm))
 ·exact hz
theorem Ml {B:Nat}{ℓ0 ℓ':Loc}{x:qa}{cv:Value}(h0:aF C ω w B ℓ0 x cv):aF C (ui ω x cv ℓ') w B ℓ' x cv:=by
 unfold ui
 split
 ·exact⟨by simp[ct],h0.2⟩
 ·exact⟨by simp[ct],h0.2⟩
 ·rename_i h1 h2
  unfold aF
  split
  ·exact absurd rfl (h1 _ _ _ _ _ _ rfl)
  ·exact absurd rfl (h2 _ _ rfl)
  ·trivial
theorem vp {b:Nat}{cs:List (qa×Bool)}(h:ym hp b=I cs):hp[b]?=I (.cells cs):=by
 unfold ym at h
 split at h
 ·rename_i dV h';cases h;exact h'
 ·cases h
theorem zM {b:Nat}{x:qn}{h':j8}(h:yl hp b x=I h'):h'=hp.set b x:=by
 unfold yl at h
 cases hb:Nat.blt b hp.length with
 |false=>simp[hb]at h
 |true=>simpa[hb]using h.symm
theorem br.store {ω':Nat→Option Loc}{B b r off:Nat}{cs:List (qa×Bool)}{us:List qa}{news:List Value}{fl:List Bool}{vs:Array Value}{t:TypeId}(zN:fl.length=us.length)(hr:aM C us news)(h1:∀v∈news,v.oneCell'=Ef)
  (hl:off+us.length≤cs.length) (cD:cs.length≤vs.size) (hold:∀j c,cs[j]?=I c→∃v,vs[j]?=I v∧v.oneCell'=Ef∧bF C c.1 v∧(c.2=Ef→aF C ω' w' B (.cell b j) c.1 v))
  (cZ:∀j u v,us[j]?=I u→news[j]?=I v→fl[j]?=I Ef→aF C ω' w' B (.cell b (off+j)) u v)
  (hg:w'.heap[r]?=I (.cells (vs.toList.take off++news++vs.toList.drop (off+news.length)).toArray t (0,0))):
  br P C ω' w' B b r (.cells (cs.take off++us.zip fl++cs.drop (off+us.length))):=by
 have mJ:=hr.length
 refine⟨_,t,hg,?_,?_⟩
 ·simp;omega
 ·intro j c hc
  rw[Mt]at hc
  have e1:(Tj off cs).length=off:=by simp;omega
  have e2:(us.zip fl).length=us.length:=by simp[zN]
  have f1:(Tj off vs.toList).length=off:=by simp;omega
  simp only[Mw,Mt]
  by_cases hj:j<off
  ·rw[Gc (by omega),H6 hj]at hc
   obtain⟨v,a1,a2,a3,a4⟩:=hold j c hc
   exact⟨v,by rw[Gc (by omega),H6 hj,Gz];exact a1,a2,a3,a4⟩
  ·rw[Ga (by omega),e1]at hc
   by_cases hj2:j<off+us.length
   ·rw[Gc (by omega)]at hc
    have du:=List.getElem?_zip_eq_some.1 hc
    obtain⟨v,a1,a2⟩:=hr.get du.1
    refine⟨v,by rw[Ga (by omega),f1,Gc (by omega)];exact a1,h1 v (My a1),a2,fun hf=>?_⟩
    have:=cZ (j-off) c.1 v du.1 a1 (by rw[du.2,hf])
    rw[show off+(j-off)=j from by omega]at this
    exact this
   ·rw[Ga (by omega),e2,Sx]at hc
    rw[show off+us.length+(j-off-us.length)=j from by omega]at hc
    obtain⟨v,a1,a2,a3,a4⟩:=hold j c hc
    exact⟨v,by rw[Ga (by omega),f1,Ga (by omega),Sx,show off+news.length+(j-off-news.length)=j from by omega,Gz];exact a1,a2,a3,a4⟩
theorem ja9 (us:List qa):us.zip (En us.length Gb)=us.map (·,Gb):=by
 induction us with
 |nil=>rfl
 |cons x us ih=>simp only[List.length_cons,Gy,List.zip_cons_cons,ih,Tl]
theorem q4h (m:av P C ω w0 C0 hp w)(e:aj C ω w w0.heap.size env tmps){b r off:Nat}{cs:List (qa×Bool)}{us:List qa}{news:List Value}(hb:hp[b]?=I (.cells cs))(hr:C.β b=I r)(gy:aM C us news)(h1:∀v∈news,v.oneCell'=Ef)(hl:off+us.length≤cs.length):
  ∃vs t,w.heap[r]?=I (.cells vs t (0,0))∧off+news.length≤vs.size ∧
   av P C ω w0 C0 (hp.set b (.cells (cs.take off++us.map (·,Gb)++cs.drop (off+us.length)))) (w.setRow r (vs.toList.take off++news++vs.toList.drop (off+news.length)).toArray) ∧
   aj C ω (w.setRow r (vs.toList.take off++news++vs.toList.drop (off+news.length)).toArray) w0.heap.size env tmps:=by
 obtain⟨vs,t,hg,cD,hold⟩:=m.box b _ r hb hr
 have hu:=E2 hg (vs.toList.take off++news++vs.toList.drop (off+news.length)).toArray
 have mJ:=gy.length
 refine⟨vs,t,hg,by omega,m.dx hu.ia hr _ (fun b' j y v _ h=>h) ?_,e.di hu.ia hr⟩
 rw[←ja9]
 refine br.store (by simp) gy h1 hl cD (fun j c hc=>?_) (fun j u v _ _ hf=>?_) (setRow_heap w r vs _ t (0,0) hg)
 ·obtain⟨v,a1,a2,a3,a4⟩:=hold j c hc
  exact⟨v,a1,a2,a3,fun h=>(a4 h).di hu.ia hr⟩
 ·rw[List.getElem?_replicate]at hf;split at hf<;>cases hf
theorem Sv {t te:TypeId}{n r off:Nat}{v:Value}{vs:Array Value}(hn:yg P t=I n)(hl:v.cells.toList.length=n)(hg:w.heap[r]?=I (.cells vs te (0,0)))(cf:off+v.cells.toList.length≤vs.size)(h1:∀u∈v.cells.toList,u.oneCell'=Ef):
  (storeVar t ⟨r,off,E0⟩ v).run P w=.ok () (w.setRow r (vs.toList.take off++v.cells.toList++vs.toList.drop (off+v.cells.toList.length)).toArray):=by
 have bU:=run_storeCells_at (P:=P) r off te v.cells.toList 0 vs w hg (by simpa using cf) h1
 simp only[Nat.add_zero]at bU
 have:¬(v.cells.size≠n):=by simp at hl;simpa using hl
 simp only[storeVar,Sem.run_bind,iL hn,Result.andThen_ok,this,if_false,Sem.run_ite,bU]
theorem jbr (m:av P C ω w0 C0 hp w)(e:aj C ω w w0.heap.size env a.tmps){t:TypeId}{x y:Operand}{x' y':qh}{n b q:Nat}{v:qa}{cs dV:List (qa×Bool)}{h':j8}(ho:o.op=.store t x y)(hn:yg P t=I n)
  (h1:zq x=I x') (h2:zq y=I y') (e1:zc env x'=I (.ptr b q)) (e2:zc env y'=I v) (kP:ym hp b=I cs) (vn:v.flat.length=n) (bU:yh cs q v.flat=I dV) (bq:yl hp b (.cells dV)=I h'):
  ∃w',(execOp a.eval o).run P w=.ok .skip w'∧kf P C0 w0 C a.tmps d env ⟨.undef,Gb,E0,h'⟩ undef w':=by
 obtain⟨r,hr,hq⟩:=(zt e.bV h1 e1).cW
 unfold yh at bU
 cases hb:(Nat.ble (q+v.flat.length) cs.length&&v.flat.all ze)with
 |false=>simp[hb]at bU
 |true=>
  simp only[hb,cT,I.injEq]at bU
  simp only[S1]at hb
  subst bU
  have ry:=zE (zt e.bV h2 e2) hb.2
  have cI:=zG ry (by simpa using hb.2)
  obtain⟨vs,te,hg,cf,m',e'⟩:=q4h m e (vp kP) hr ry cI (R9 hb.1)
  obtain rfl:=zM bq
  have bm:=Sv (P:=P) hn (by rw[ry.length,vn]) hg cf cI
  exact⟨_,by simp[execOp,ho,Instr.storeAt,hq,Instr.sureAddr,bm],C,ω,ay.le_refl C,m',e',.undef,by simp⟩
theorem q2e (m:av P C ω w0 C0 hp w)(e:aj C ω w w0.heap.size env a.tmps){t:TypeId}{x y:Operand}{x' y':qh}{b q s:Nat}{v:qa}{cs:List (qa×Bool)}{h':j8}(ho:o.op=.store t x y)(hn:yg P t=I 1)
  (h1:zq x=I x') (h2:zq y=I y') (e1:zc env x'=I (.ptr b q)) (e2:zc env y'=I v) (kP:ym hp b=I cs) (hv:v.cu=Ef) (aY:q<cs.length) (cB:kg env y'=I s) (bq:yl hp b (.cells (cs.set q (v,Ef)))=I h'):
  ∃w',(execOp a.eval o).run P w=.ok .skip w'∧kf P C0 w0 C a.tmps d env ⟨.undef,Gb,I s,h'⟩ undef w':=by
 obtain⟨r,hr,hq⟩:=(zt e.bV h1 e1).cW
 have ry:=zt e.bV h2 e2
 obtain⟨zO,v0,hl⟩:=E5 cB
 have iO:v0=v:=by subst zO;simp only[zc,hl]at e2;exact I.inj e2
 subst iO
 have jH:v0.flat=[v0]:=by cases v0<;>simp[qa.cu]at hv<;>rfl
 have hsc:ze v0=Ef:=by cases v0<;>simp[qa.cu]at hv<;>rfl
 have rf:=zE ry (by rw[jH];simpa using hsc)
 rw[jH]at rf
 have cI:=zG rf (by simpa using hsc)
 have dE:(a.eval y).cells.toList=[a.eval y]:=by
  have:=Sl ry hsc
  cases hh:a.eval y<;>simp[hh,Value.oneCell']at this<;>rfl
 obtain⟨cv,wV,Mi,zJ⟩:=e s _ hl
 have oc:a.eval y=cv:=by
  have zP:zq y=I (.tmp s):=by rw[h2,zO]
  cases y with
  |tmp t'=>simp only[zq]at zP;cases zP;simp[Act.eval,Ge,wV]
  |const u=>simp only[zq]at zP;split at zP<;>cases zP
  |func f=>simp[zq]at zP
  |global g=>simp[zq]at zP
 obtain⟨vs,te,hg,cD,hold⟩:=m.box b _ r (vp kP) hr
 have hu:=E2 hg (vs.toList.take q++[a.eval y]++vs.toList.drop (q+1)).toArray
 have gL:(a.eval y).cells.toList.length=1:=by rw[dE];rfl
 have bm:=Sv (P:=P) (t:=t) (off:=q) hn gL hg (by omega) cI
 rw[gL,dE]at bm
 obtain rfl:=zM bq
 have wY:=zJ rfl
 have nG:∀ℓ z u,ℓ≠.slot s→aF C ω w w0.heap.size ℓ z u→aF C (ui ω v0 cv (.cell b q)) w w0.heap.size ℓ z u:=fun ℓ z u hℓ hz=>wX wY hℓ hz
 have cZ:aF C (ui ω v0 cv (.cell b q)) w w0.heap.size (.cell b q) v0 cv:=Ml wY
 have hcs:cs.take q++[(v0,Ef)]++cs.drop (q+1)=cs.set q (v0,Ef):=by
  rw[List.set_eq_take_append_cons_drop,if_pos aY];simp
 refine⟨w.setRow r (vs.toList.take q++[a.eval y]++vs.toList.drop (q+1)).toArray,by simp only[execOp,ho,Instr.storeAt,Sem.run_bind,hq,Instr.sureAddr,Sem.run_pure,Result.andThen_ok,bm],C,ui ω v0 cv (.cell b q),ay.le_refl C,?_,?_,.undef,by simp⟩
 ·refine m.dx hu.ia hr _ (fun b' j z u eV hz=>nG _ z u (by simp) hz) ?_
  rw[←hcs]
  have hz:[(v0,Ef)]=[v0].zip [Ef]:=rfl
  rw[hz]
  refine br.store (us:=[v0]) (fl:=[Ef]) (news:=[a.eval y]) rfl (by rw[←dE];exact rf) (by rw[←dE];exact cI) (by simp;omega) cD (fun j c hc=>?_) (fun j u v Fk iK _=>?_) (setRow_heap w r vs _ te (0,0) hg)
  ·obtain⟨v,a1,a2,a3,a4⟩:=hold j c hc
   exact⟨v,a1,a2,a3,fun h=>(nG _ _ _ (by simp) (a4 h)).di hu.ia hr⟩
  ·cases j with
   |zero=>
    simp at Fk iK
    subst Fk;subst iK
    have h3:=cZ.di hu.ia hr
    exact oc▸h3
   |succ j=>simp at Fk
 ·intro t' x' fh
  by_cases lq:t'=s
  ·subst lq
   simp only[kz,hl,yd,Nat.beq_refl,cT]at fh
   cases fh
   exact⟨cv,wV,Mi,by simp⟩
  ·have ic:yd t' env=I x':=by
    simp only[kz,hl,yd]at fh
    have:Ma s t'=Gb:=by
     cases hb:Ma s t' with
     |false=>rfl
     |true=>exact absurd (Gd hb).symm lq
    rw[this]at fh
    exact fh
   obtain⟨u,k1,k2,k3⟩:=e t' x' ic
   exact⟨u,k1,k2,fun h=>(nG _ _ _ (by simp[lq]) (k3 h)).di hu.ia hr⟩
end
section
variable {P:Program}{C C0:ay}{ω:Nat→Option Loc}{w w' w0:World}{hp:j8}{env:Env}{a:Act}{o:Oper}{tmps:Array Value}{d:Loc}
theorem q1f {s:Nat}{v:qa}{ow:Bool}(hl:yd s env=I (v,ow)){t:Nat}{x:qa×Bool}(hx:yd t (kz env (I s))=I x):(t=s∧x=(v,Gb))∨(t≠s∧yd t env=I x):=by
 simp only[kz,hl,yd]at hx
 cases hb:Ma s t with
 |true=>
  simp only[hb,cT,I.injEq]at hx
  exact .inl ⟨(Gd hb).symm,hx.symm⟩
 |false=>
  simp only[hb,cond_false]at hx
  refine .inr ⟨fun h=>?_,hx⟩
  subst h
  simp at hb
theorem jed (m:av P C ω w0 C0 hp w)(e:aj C ω w w0.heap.size env a.tmps){s:Nat}{v:qa}{ow:Bool}(ho:o.op=.move (.tmp s)∨o.op=.assign (.tmp s))(hl:yd s env=I (v,ow)):
  ∃u w',(execOp a.eval o).run P w=.ok (.value u) w'∧kf P C0 w0 C a.tmps d env ⟨v,ow,I s,hp⟩ u w':=by
 obtain⟨cv,h1,h2,h3⟩:=e s _ hl
 have eg:a.eval (.tmp s)=cv:=by simp[Act.eval,Ge,h1]
 have bm:(execOp a.eval o).run P w=.ok (.value cv) w:=by rcases ho with ho|ho<;>simp[execOp,ho,eg]
 refine⟨cv,w,bm,?_⟩
 by_cases hk:ow=Ef
 ·subst hk
  have cB:=h3 rfl
  refine⟨C,ui ω v cv d,ay.le_refl C,?_,?_,h2,fun _=>Ml cB⟩
  ·exact { m with box:=fun b x r hx hb=>(m.box b x r hx hb).mono (ay.le_refl C) fun j y u hz=>wX cB (by simp) hz }
  ·intro t x hx
   rcases q1f hl hx with⟨rfl,rfl⟩|⟨bA,fh⟩
   ·exact⟨cv,h1,h2,by simp⟩
   ·obtain⟨u,k1,k2,k3⟩:=e t x fh
    exact⟨u,k1,k2,fun h=>wX cB (by simpa using bA) (k3 h)⟩
 ·refine⟨C,ω,ay.le_refl C,m,e.strip _,h2,fun h=>absurd h hk⟩
theorem q2b (m:av P C ω w0 C0 hp w)(e:aj C ω w w0.heap.size env a.tmps){t:TypeId}{x:Operand}{x':qh}{b q:Nat}{v:qa}{ow:Bool}{cs:List (qa×Bool)}{h':j8}(ho:o.op=.load t x)(cL:fc P t=I Gb)
  (h1:zq x=I x') (e1:zc env x'=I (.ptr b q)) (kP:ym hp b=I cs) (hc:cs[q]?=I (v,ow)) (bq:yl hp b (.cells (cs.set q (v,Gb)))=I h'):
  ∃u w',(execOp a.eval o).run P w=.ok (.value u) w'∧kf P C0 w0 C a.tmps d env ⟨v,ow,E0,h'⟩ u w':=by
 obtain⟨r,hr,hq⟩:=(zt e.bV h1 e1).cW
 obtain⟨vs,te,hg,cD,hold⟩:=m.box b _ r (vp kP) hr
 obtain⟨cv,k1,k2,k3,k4⟩:=hold q _ hc
 obtain rfl:=zM bq
 have dE:w.cell? ⟨r,q,E0⟩=I cv:=by
  simp only[World.cell?,hg]
  simpa using k1
 have bm:(execOp a.eval o).run P w=.ok (.value cv) w:=by
  simp[execOp,ho,hq,Instr.loadAt,Instr.sureAddr,Ff cL dE]
 have hu:jk w w r:=⟨rfl,fun _ _=>rfl,fun c t fr h=>by rw[hg]at h;cases h;rfl,rfl,rfl⟩
 have ga:∀ω':Nat→Option Loc,(∀j c u,j≠q→aF C ω w w0.heap.size (.cell b j) c u→aF C ω' w w0.heap.size (.cell b j) c u)→br P C ω' w w0.heap.size b r (.cells (cs.set q (v,Gb))):=by
  intro ω' hk
  refine⟨vs,te,hg,by simpa using cD,fun j c hj=>?_⟩
  rw[List.getElem?_set]at hj
  split at hj
  ·rename_i Sw
   subst Sw
   split at hj
   ·cases hj;exact⟨cv,k1,k2,k3,by simp⟩
   ·cases hj
  ·rename_i Sw
   obtain⟨u,a1,a2,a3,a4⟩:=hold j c hj
   exact⟨u,a1,a2,a3,fun h=>hk _ _ _ (Ne.symm Sw) (a4 h)⟩
 refine⟨cv,w,bm,?_⟩
 by_cases hk:ow=Ef
 ·subst hk
  have cB:=k4 rfl
  refine⟨C,ui ω v cv d,ay.le_refl C,?_,?_,k3,fun _=>Ml cB⟩
  ·exact m.dx hu hr _ (fun b' j y u eV hz=>wX cB (by simp[eV]) hz) (ga _ fun j c u hj hz=>wX cB (by simp[hj]) hz)
  ·exact fun t x hx=>let ⟨u,k1,k2,k3⟩:=e t x hx; ⟨u,k1,k2,fun h=>wX cB (by simp) (k3 h)⟩
 ·refine⟨C,ω,ay.le_refl C,m.dx hu hr _ (fun _ _ _ _ _ h=>h) (ga _ fun _ _ _ _ h=>h),e,k3,fun h=>absurd h hk⟩
end
end Go.Abs
