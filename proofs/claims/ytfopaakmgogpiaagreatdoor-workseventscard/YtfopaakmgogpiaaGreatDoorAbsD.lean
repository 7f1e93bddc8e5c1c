/- Slices that are written later. -/
import Derived.Test.YtfopaakmgogpiaaGreatDoorAbsC
import Derived.Scope
set_option linter.unusedVariables false
set_option linter.unusedSimpArgs false
open Option renaming some→I,map_eq_some_iff→Ef,none→En,isSome_none→Hh
open Bool renaming false→E0,and_eq_true→E4,true→E6,false_eq_true→Gm
open Nat renaming eq_of_beq_eq_true→E1,mul_le_mul_right→E9,le_refl→Gy,beq→Gz,le_trans→Hq,mul_le_mul→My,add_mul→So,le_of_ble_eq_true→Sr,zero_add→Ta,blt_eq→Tm
open List renaming getElem?_eq_some_iff→E3,getElem?_toArray→Gb,getElem?_append_left→Gd,getElem?_eq_getElem→Ge,getElem?_cons_zero→H6,getElem?_cons_succ→If,replicate→Ma,getElem?_set_self→Mt,mem_of_getElem?→Mu,nil_append→Mw,getElem?_append_right→N0,getElem?_map→N1,size_toArray→N3,flatMap_cons→N4,getElem?_take_of_lt→Sc,getElem?_eq_none→Sj,getElem?_set_ne→St,mem_cons_of_mem→Sw,mem_of_mem_take→S0,getElem?_take→S1,mem_cons_self→S6,length_append→S7,set_set→S9,ext_getElem?→Tb,append_assoc→Tc,length_take→Td,length_set→Tj,mem_append→Tl
open Array renaming getElem?_toList→Ga,ext'→Gc,getElem?_eq_some_iff→Ha,getElem?_append_left→Hb,getD_eq_getD_getElem?→Nf,range→Ny,size_append→N2
namespace Go.Abs
section
variable {P:Program}{C C0:ay}{ω:Nat→Option Loc}{w w' w0:World}{hp:j8}{env:Env}{a:Act}{o:Oper}{tmps:Array Value}{d:Loc}
theorem qyz (m:av P C ω w0 C0 hp w)(e:aj C ω w w0.heap.size env a.tmps){t el:TypeId}{x y:Operand}{x' y':qh}{n sz b h0 rk:Nat}{z:List qa}{h':j8}
  (ho:o.op=.makeSlice t x y) (ht:P.underlying t=I (.slice el)) (hn:yg P el=I sz) (hb:nA P el=I b) (hz:ek P el=I z) (Sx:0<sz) (gM:z.length=sz)
  (h1:zq x=I x') (h2:zq y=I y') (e1:zc env x'=I (.int .i64 (n:Int))) (e2:zc env y'=I (.int .i64 (n:Int))) (hle:n≤1073741824) (iM:b≤4096)
  (cZ:aJ h0 hp rk (.cells (cellsOf (Ma n z).flatten))=I h'):
  ∃v w',(execOp a.eval o).run P w=.ok (.value v) w'∧kf P C0 w0 C a.tmps d env ⟨.ms (h0+rk) 0 n,E0,En,h'⟩ v w':=by
 obtain⟨hh,rfl⟩:=lv cZ
 obtain⟨pJ,zv,kM,cw,lj⟩:=uf (C:=C) hz
 have mG:zv.cells.toList.length=sz:=by rw[cw.length,gM]
 have jE:((Ny (n*sz)).map (fun i=>zv.cells[i % zv.cells.size]!)).toList=(Ma n zv.cells.toList).flatten:=by
  have:=Mg mG Sx n
  simpa using this
 have r1:=(zt e.bV h1 e1).bH
 have r2:=(zt e.bV h2 e2).bH
 have fI:aM C (Ma n z).flatten ((Ny (n*sz)).map (fun i=>zv.cells[i % zv.cells.size]!)).toList:=by
  rw[jE];exact cw.replicate n
 obtain⟨i,hi,pM⟩:∃i,P.info? el=I i∧i.bytes=b:=by
  unfold nA at hb
  cases hi:P.info? el with
  |none=>simp[hi]at hb
  |some i=>exact⟨i,rfl,by simpa[hi]using hb⟩
 have jT:i.size=sz:=by
  unfold yg at hn
  rw[hi]at hn
  simpa using hn
 have pN:IntKind.i64.wrap (n:Int)=n:=by
  rw[←zC];unfold j6
  have:pE .i64 (n:Int)=E6:=by simp[pE];exact Hq hle (by decide)
  rw[this];rfl
 have zA:b*n≤281474976710656:=Hq (My iM hle) (by decide)
 obtain⟨m',e',cz⟩:=m.aJ e hh (.cells ((Ny (n*sz)).map (fun i=>zv.cells[i % zv.cells.size]!)) el) (fun c t fr h=>by cases h;rfl) (.cells (cellsOf (Ma n z).flatten))
  (Ss fI (by
   intro x h
   rw[List.mem_flatten]at h
   obtain⟨l,q1,q2⟩:=h
   obtain⟨_,rfl⟩:=List.mem_replicate.1 q1
   exact pJ x q2) (by intro j v h;rw[Ga]at h;exact h) (by have:=fI.length;simp at this;simp;omega))
 refine⟨.slice (I ⟨w.heap.size,0,En⟩) n n,w.alloc (.cells ((Ny (n*sz)).map (fun i=>zv.cells[i % zv.cells.size]!)) el),?_,_,_,cz,m',e',.ms _ _ _ _ _ (by simp[ay.box]) (Gy _),by simp⟩
 have c1:¬((b:Int)*(n:Int) > 2^48):=by
  have h1:((b*n:Nat):Int)≤281474976710656:=Int.ofNat_le.2 zA
  rw[Int.natCast_mul]at h1
  have h2:(2:Int)^48=281474976710656:=by decide
  rw[h2];omega
 have c2:¬((n:Int)<0):=by omega
 have hr:Ny 0=#[]:=rfl
 simp only[execOp,ho,Instr.makeSlice,Sem.run_bind,run_underlying ht,r1,r2,asInt,asIntOf,Sem.run_pure,Result.andThen_ok,typeInfo,run_program,hi,pM,pN,c2,c1,decide_false,Bool.or_false,Gm,if_false,Int.lt_irrefl,gt_iff_lt,run_askRoom,Int.toNat_natCast,iL hn,newRow]
 by_cases zD:n=0
 ·subst zD
  simp[hr]
 ·have bA:¬(n*sz=0):=by
   intro h
   rcases Nat.mul_eq_zero.1 h with h|h<;>omega
  simp[bA,kM]
theorem jw8 (m:av P C ω w0 C0 hp w)(e:aj C ω w w0.heap.size env tmps){b r s:Nat}{cells:Array Value}{t:TypeId}{us:List qa}{news:List Value}(hh:hp[b]?=I .hole)(hω:ω r=I (.slot s))(hB:w0.heap.size≤r∨C.W r)(hβ:∀b,C.β b≠I r)
  (hg:w.heap[r]?=I (.cells cells t (0,0))) (hK:∀o,C.K r o=En) (cf:news.length≤cells.size) (gy:aM C us news) (cI:∀v∈news,v.oneCell'=E6):
  av P (C.box b r) ω w0 C0 (hp.set b (.cells (cellsOf us))) (w.setRow r (cells.toList.take 0++news++cells.toList.drop (0+news.length)).toArray) ∧
  aj (C.box b r) ω (w.setRow r (cells.toList.take 0++news++cells.toList.drop (0+news.length)).toArray) w0.heap.size (kz env (I s)) tmps∧C.le (C.box b r):=by
 have hu:=E2 hg (cells.toList.take 0++news++cells.toList.drop (0+news.length)).toArray
 have lx:=setRow_heap w r cells (cells.toList.take 0++news++cells.toList.drop (0+news.length)).toArray t (0,0) hg
 generalize w.setRow r (cells.toList.take 0++news++cells.toList.drop (0+news.length)).toArray=w' at hu lx
 have Sy:=Fh m hh
 have hle:=ay.jU (C:=C) (r:=r) Sy
 have aY:b<hp.length:=(E3.1 hh).1
 have Sz:r<w.heap.size:=(Ha.1 hg).1
 have cB:∀ℓ x v,ℓ≠.slot s→aF C ω w w0.heap.size ℓ x v→aF (C.box b r) ω w' w0.heap.size ℓ x v:=by
  intro ℓ x v hℓ ho
  have bA:ω r≠I ℓ:=by rw[hω];intro h;exact hℓ (I.inj h).symm
  exact(ho.box (.inr bA)).ia hu bA
 refine⟨?_,?_,hle⟩
 ·refine { base:=m.base,know:=?_,cR:=m.cR,apart:=?_,inj:=?_,lt:=?_,size:=?_,frame:=?_,eN:=?_,os:=hu.os.trans m.os,output:=hu.output.trans m.output,fresh:=?_,grown:=ay.le_trans m.grown hle,old:=m.old,box:=?_,gY:=fun q hq=>by rw[hu.size];exact m.gY q hq }
  ·intro k q v hk
   have gN:k≠r:=fun h=>by
    have eC:C.K k q=I v:=hk
    rw[h,hK q]at eC;cases eC
   have hc:=m.know _ _ _ hk
   simp only[World.cell?]at hc ⊢
   rw[hu.other k gN];exact hc
  ·intro k q p hk
   simp only[ay.box]at hk
   split at hk
   ·cases hk;exact hK p
   ·exact m.apart k q p hk
  ·intro k k' q hk eC
   simp only[ay.box]at hk eC
   split at hk<;>split at eC
   ·rename_i h1 h2;rw[h1,h2]
   ·cases hk;exact absurd eC (hβ k')
   ·cases eC;exact absurd hk (hβ k)
   ·exact m.inj k k' q hk eC
  ·intro k q hk
   rw[Tj,hu.size]
   simp only[ay.box]at hk
   split at hk
   ·rename_i h1;cases hk;subst h1;exact⟨Sz,aY⟩
   ·exact m.lt k q hk
  ·rw[hu.size];exact m.size
  ·intro k hk hn hw
   have gN:k≠r:=fun h=>by
    subst h
    rcases hB with h|h
    ·omega
    ·rw[m.grown.w]at h;exact hw h
   rw[hu.other k gN];exact m.frame k hk hn hw
  ·intro k hk
   have gN:k≠r:=fun h=>by
    subst h
    have:=m.eN k hk
    rw[hg]at this;cases this
   rw[hu.other k gN];exact m.eN k hk
  ·intro k q hk
   simp only[ay.box]at hk
   split at hk
   ·cases hk
    rcases hB with h|h
    ·exact .inr (.inl h)
    ·rw[m.grown.w]at h;exact .inr (.inr h)
   ·exact m.fresh k q hk
  ·intro k x q hx hk
   simp only[ay.box]at hk
   split at hk
   ·rename_i h1
    subst h1
    cases hk
    rw[Mt aY]at hx
    cases hx
    have mJ:=gy.length
    refine⟨_,t,lx,by simp[cellsOf];omega,?_⟩
    intro j c hc
    simp only[cellsOf,N1,Ef]at hc
    obtain⟨x,hx,rfl⟩:=hc
    obtain⟨v,h1,h2⟩:=gy.get hx
    have hj:j<news.length:=(E3.1 h1).1
    refine⟨v,?_,cI v (Mu h1),qp.mono hle h2,by simp⟩
    simp only[List.take_zero,Mw,Gb]
    rw[Gd hj];exact h1
   ·rename_i h1
    rw[St (Ne.symm h1)]at hx
    have bA:q≠r:=fun h=>hβ k (h▸hk)
    have kN:br P C ω w' w0.heap.size k q x:=(m.box k x q hx hk).ia hu bA (fun j=>by rw[hω];simp)
    exact kN.mono hle fun j y v ho=>ho.box (.inr (by rw[hω];simp))
 ·intro t' x hx
  by_cases lq:t'=s
  ·subst lq
   simp only[kz]at hx
   cases hl:yd t' env with
   |none=>rw[hl]at hx;simp only[hl]at hx;cases hx
   |some y=>
    rw[hl]at hx
    simp only[yd,Nat.beq_refl,cT]at hx
    cases hx
    obtain⟨v,h2,h3,_⟩:=e t' y hl
    exact⟨v,h2,qp.mono hle h3,by simp⟩
  ·have fh:yd t' env=I x:=by
    simp only[kz]at hx
    cases hl:yd s env with
    |none=>rw[hl]at hx;exact hx
    |some y=>
     rw[hl]at hx
     simp only[yd]at hx
     have:Gz s t'=E0:=by
      cases hb:Gz s t' with
      |false=>rfl
      |true=>exact absurd (E1 hb).symm lq
     rw[this]at hx
     exact hx
   obtain⟨v,h2,h3,h4⟩:=e t' x fh
   exact⟨v,h2,qp.mono hle h3,fun h=>cB _ _ _ (by simp[lq]) (h4 h)⟩
theorem q6f {xs:List qa}{vs:List Value}{t:TypeId}{B b r:Nat}{cells:Array Value}(hr:aM C xs vs)(cI:∀v∈vs,v.oneCell'=E6)(hv:∀(j:Nat) v,vs[j]?=I v→cells[j]?=I v)(hl:xs.length≤cells.size):
  ∀C' ω' w',C.le C'→w'.heap[r]?=I (.cells cells t (0,0))→br P C' ω' w' B b r (.cells (cellsOf xs)):=by
 intro C' ω' w' hle hg
 refine⟨cells,t,hg,by simpa[cellsOf]using hl,?_⟩
 intro j c hc
 simp only[cellsOf,N1,Ef]at hc
 obtain⟨x,hx,rfl⟩:=hc
 obtain⟨v,h1,h2⟩:=hr.get hx
 exact⟨v,hv j v h1,cI v (Mu h1),qp.mono hle h2,by simp⟩
theorem q1e (m:av P C ω w0 C0 hp w)(e:aj C ω w w0.heap.size env a.tmps){c:Call}{t u el:TypeId}{ut:TypeDesc}{x y:Operand}{x' y':qh}{sz b h0 rk:Nat}{n:Bool}{cK:Nat}{ys:List qa}{vy:qa}{h':j8}
  (ho:o.op=.call c) (dB:c.callee=.builtin .append) (dK:c.args.toList=[x,y]) (dY:c.argTypes.toList=[t,u]) (ht:P.underlying t=I (.slice el)) (hu:P.underlying u=I ut) (iN:zb ut=E6)
  (hn:yg P el=I sz) (hb:nA P el=I b) (h1:zq x=I x') (h2:zq y=I y') (e1:zc env x'=I (.list n cK [])) (e2:zc env y'=I vy) (cy:kj sz vy=I ys)
  (cB:(kg env x').isSome=E6) (SA:n=E0) (hlen:ys.length≤1073741824) (iM:b≤4096) (hzero:∃z,ek P el=I z∧z.length=sz) (zK:sz=cK)
  (cZ:aJ h0 hp rk (.cells (cellsOf (ys.flatMap qa.flat)))=I h'):
  ∃v w',(execOp a.eval o).run P w=.ok (.value v) w'∧kf P C0 w0 C a.tmps d env ⟨.ms (h0+rk) 0 ys.length,E0,kg env x',h'⟩ v w':=by
 obtain⟨hh,rfl⟩:=lv cZ
 subst SA
 subst zK
 have ha:c.args=#[x,y]:=by apply Gc;simpa using dK
 have jS:c.argTypes=#[t,u]:=by apply Gc;simpa using dY
 obtain⟨i,hi,pM⟩:∃i,P.info? el=I i∧i.bytes=b:=by
  unfold nA at hb
  cases hi:P.info? el with
  |none=>simp[hi]at hb
  |some i=>exact⟨i,rfl,by simpa[hi]using hb⟩
 have jT:i.size=sz:=by
  unfold yg at hn;rw[hi]at hn;simpa using hn
 obtain⟨z,hz,zL⟩:=hzero
 obtain⟨zv,mI⟩:∃zv,i.zero=I zv:=by
  unfold ek at hz;rw[hi]at hz
  cases hq:i.zero with
  |none=>simp[hq]at hz
  |some v=>exact⟨v,rfl⟩
 have rx:=zt e.bV h1 e1
 have ry:=zt e.bV h2 e2
 obtain⟨news,hs,cH,fi,cI⟩:=Mh m hu iN cy ry
 have eA:∀ {z:Value} {w':World},(Builtin.append_ #[t,u] o.type #[a.eval x,a.eval y]).run P w=.ok z w'→(execOp a.eval o).run P w=.ok (.value z) w':=by
  intro z w' h
  simp[execOp,ho,resolve,dB,ha,jS,invoke,builtin,h]
 have mJ:news.length=ys.length*sz:=by rw[cH.length,lm ys fi]
 rcases rx.cG with⟨hh1,_,_⟩|⟨_,r,q,cap,hx,hle,cM⟩|⟨_,_,ad,lW,hx⟩
 rotate_right
 ·exact absurd (q4y e h1 cB e1 hx) lW
 ·cases hh1
 ·obtain⟨s,gA⟩:=Option.isSome_iff_exists.1 cB
  obtain⟨fh,v0,hl⟩:=E5 gA
  have iO:v0=.list E0 sz []:=by
   subst fh
   simp only[zc,hl]at e1
   exact I.inj e1
  subst iO
  obtain⟨cv,wV,Mi,zJ⟩:=e s _ hl
  have oc:cv=.slice (I ⟨r,q,En⟩) 0 cap:=by
   have ib:zq x=I (.tmp s):=by rw[h1,fh]
   cases x with
   |tmp t'=>
    simp only[zq]at ib
    cases ib
    have:a.eval (.tmp s)=cv:=by simp[Act.eval,Nf,wV]
    rw[←this,hx];rfl
   |const u=>simp only[zq]at ib;split at ib<;>cases ib
   |func f=>simp[zq]at ib
   |global g=>simp[zq]at ib
  subst oc
  obtain⟨hω,hB,hβ,_,Mj,⟨cells,te,hg,cf⟩,hK⟩:=zJ rfl
  simp only at hω hB hβ hg cf hK Mj
  subst Mj
  simp only[List.length_nil]at hx
  by_cases dR:0+ys.length≤cap
  ·have fZ:(0+ys.length)*sz≤cap*sz:=E9 _ dR
   have bm:=Sn (P:=P) (w:=w) (ty:=o.type) ht hi r 0 0 cap (a.eval y) ys.length news (jT▸hs) dR hg (by rw[mJ];simp at fZ cf ⊢;omega)
   rw[←hx]at bm
   have e0:0+0*i.size=0:=by simp
   rw[e0]at bm
   obtain⟨m',e',cz⟩:=jw8 (tmps:=a.tmps) m e hh hω hB hβ hg (fun o=>hK o (by simp)) (by rw[mJ];simp at fZ cf ⊢;omega) cH cI
   rw[gA]
   refine⟨_,_,eA bm,_,_,cz,m',e',?_,by simp⟩
   have:=qp.ms (C:=C.box (h0+rk) r) (h0+rk) 0 ys.length r cap (by simp[ay.box]) (by omega)
   simpa using this
  ·have Fl:Builtin.nextslicecap (0+ys.length) cap*i.bytes≤281474976710656:=growslice_fits (by omega) (by
    rw[pM]
    exact Hq (My (by omega) iM) (by decide:2^30*4096≤_))
   have bm:=run_append_grow_src w t u o.type el i zv ht hi mI (I ⟨r,0,En⟩) 0 cap [] (run_firstCells_some _ _ _ _ _ _ [] (by simp) (by simp)) (a.eval y) ys.length news (jT▸hs) (by omega) (by omega) Fl
   rw[←hx]at bm
   have uh:=grownCap_ge w (0+ys.length) cap el
   have ic:Ext w w.drew:=Ext.drew w
   obtain⟨m',e',cz⟩:=(m.ext ic).aJ (e.ext ic) hh (.cells (([]++news).toArray++Builtin.zeroCells zv.cells (grownCap w (0+ys.length) cap el-(0+ys.length))) el) (fun c t fr h=>by cases h;rfl) (.cells (cellsOf (ys.flatMap qa.flat)))
    (q6f cH cI (by
     intro j v hj
     rw[Hb (by simpa using(E3.1 hj).1)]
     simpa using hj) (by have h5:=cH.length;rw[N2];simp only[Mw,N3];omega))
   refine⟨_,_,eA bm,_,_,cz,m',e'.strip _,?_,by simp⟩
   have:=qp.ms (C:=C.box (h0+rk) w.drew.heap.size) (h0+rk) 0 ys.length w.drew.heap.size (grownCap w (0+ys.length) cap el) (by simp[ay.box]) (by omega)
   simpa using this
end
section
variable {P:Program}{C C0:ay}{ω:Nat→Option Loc}{w w' w0:World}{hp:j8}{env:Env}{a:Act}{o:Oper}{tmps:Array Value}{d:Loc}
theorem Mm {b bz len:Nat}{v:Value}(h:bF C (.ak b bz len) v):∃r0 r cap,C.β b=I r0∧C.T (r0,bz,r,cap)∧len≤cap∧v=.slice (I ⟨r,0,En⟩) len cap:=by
 cases h with
 |ak _ _ _ r0 r cap hb ht hl=>exact⟨r0,r,cap,hb,ht,hl,rfl⟩
theorem q6l {b bz off:Nat}{v:Value}(h:bF C (.cJ b bz off) v):∃r0 r cap,C.β b=I r0∧C.T (r0,bz,r,cap)∧v=.pointer (I ⟨r,off,En⟩):=by
 cases h with
 |cJ _ _ _ r0 r cap hb ht=>exact⟨r0,r,cap,hb,ht,rfl⟩
theorem qzr {t:TypeId}{x:Operand}{x':qh}{i:Nat}{fs:Array Field}{f:Field}{n b bz q:Nat}(he:aW C env a.tmps)(ho:o.op=.fieldAddr t x i)(ht:P.underlying t=I (.struct fs))(hf:fs[i]?=I f)
  (hn:yg P f.type=I n) (zD:0<n) (h1:zq x=I x') (e1:zc env x'=I (.cJ b bz q)):Val P C a o w (.cJ b bz (q+f.offset)):=by
 obtain⟨r0,r,cap,hb,hT,hq⟩:=q6l (zt he h1 e1)
 refine⟨.pointer (I ⟨r,q+f.offset,En⟩),?_,.cJ _ _ _ r0 r cap hb hT⟩
 simp[execOp,ho,Instr.fieldAt,run_underlying ht,hf,hq,Instr.sureAddr,fieldPlace,iL hn,Nat.pos_iff_ne_zero.1 zD,add_lit]
theorem qzo {t e:TypeId}{x i:Operand}{x' i':qh}{sz:Nat}{iv:qa}{b bz len j:Nat}(he:aW C env a.tmps)(ho:o.op=.indexAddr t x i)(ht:P.underlying t=I (.slice e))
  (hn:yg P e=I sz) (h1:zq x=I x') (h2:zq i=I i') (e1:zc env x'=I (.ak b bz len)) (e2:zc env i'=I iv) (hj:idx len iv=I j):Val P C a o w (.cJ b bz (j*sz)):=by
 obtain⟨r0,r,cap,hb,hT,_,hq⟩:=Mm (zt he h1 e1)
 obtain⟨k,rfl,aY⟩:=EZ hj
 have hi:=(zt he h2 e2).bH
 refine⟨.pointer (I ⟨r,j*sz,En⟩),?_,.cJ _ _ _ r0 r cap hb hT⟩
 simp[execOp,ho,Instr.indexAt,run_underlying ht,hq,hi,asIntOf,iL hn,aY,add_lit]
theorem q9u {t e:TypeId}{x:Operand}{lo hi:Option Operand}{x':qh}{li fH:Option qh}{sz j b bz len:Nat}(he:aW C env a.tmps)(ho:o.op=.slice t x lo hi En)(ht:P.underlying t=I (.slice e))
  (hn:yg P e=I sz) (h1:zq x=I x') (h2:mA lo=I li) (h3:mA hi=I fH) (e1:zc env x'=I (.ak b bz len)) (b2:eT env len len fH=I j) (b1:eT env 0 j li=I 0):Val P C a o w (.ak b bz j):=by
 obtain⟨r0,r,cap,hb,hT,hl,hq⟩:=Mm (zt he h1 e1)
 obtain⟨hE,k1,k2⟩:=Md (P:=P) (isS:=true) he h2 h3 b2 b1 hl w
 refine⟨.slice (I ⟨r,0,En⟩) j cap,?_,.ak _ _ _ r0 r cap hb hT (by omega)⟩
 simp[execOp,ho,Instr.sliceAt,Instr.slice,run_underlying ht,hq,hE,iL hn,add_lit]
theorem jf2 {c:Call}{x:Operand}{t e:TypeId}{x':qh}{b bz n:Nat}(he:aW C env a.tmps)(ho:o.op=.call c)(dB:c.callee=.builtin .len)(dK:c.args.toList=[x])(dY:c.argTypes.toList=[t])
  (h1:zq x=I x') (e1:zc env x'=I (.ak b bz n)) (ht:P.underlying t=I (.slice e)):Val P C a o w (.int .i64 n):=by
 have ha:c.args=#[x]:=by apply Gc;simpa using dK
 have jS:c.argTypes=#[t]:=by apply Gc;simpa using dY
 refine⟨.int .i64 n,?_,.int _ _⟩
 simp only[execOp,ho,resolve,dB,ha,jS,Sem.run_bind,Sem.run_pure,Result.andThen_ok,invoke,builtin,Builtin.len_]
 obtain⟨r0,r,cap,_,_,_,hq⟩:=Mm (zt he h1 e1)
 simp[run_underlying ht,hq,goInt]
theorem jfq (m:av P C ω w0 C0 hp w){b bz q cap r0 sz:Nat}{xs:List qa}(hb:C.β b=I r0)(hT:C.T (r0,bz,q,cap))(gd:hp[b]?=I (.vec sz bz xs)):
  ∃vs,aM C (xs.flatMap qa.flat) vs∧(∀(j:Nat) v,vs[j]?=I v→w.cell? ⟨q,j,En⟩=I v∧v.oneCell'=E6)∧dP C.K w q sz xs cap:=by
 obtain⟨q',jV,k1,k2,k3,k4,_⟩:=m.box b _ r0 gd hb
 have heq:=(k2 _ hT rfl).2 rfl
 simp only[Prod.mk.injEq]at heq
 obtain⟨rfl,rfl⟩:=heq
 obtain⟨cells,t,vs,g1,g2,g3,g4,g5,g6,g7⟩:=id k3
 refine⟨vs,qp.imp (C:=.bM C.K) (C':=C) ⟨fun _ _ _ h=>h,fun b r h=>by cases h⟩ g5 (fun _ h=>h.elim),fun j v hj=>⟨?_,g7 v (Mu hj)⟩,k3⟩
 unfold World.cell?
 rw[g1]
 simp only[Hh,Gm,if_false]
 exact g6 j v hj
theorem q0v (m:av P C ω w0 C0 hp w)(he:aW C env a.tmps){t:TypeId}{x:Operand}{x':qh}{n:Nat}{ag:Bool}{b bz q sz:Nat}{xs:List qa}{v:qa}(ho:o.op=.load t x)(hg:fc P t=I ag)(hn:yg P t=I n)(h1:zq x=I x')(e1:zc env x'=I (.cJ b bz q))
  (gd:hp[b]?=I (.vec sz bz xs)) (hl:q+n≤(xs.flatMap qa.flat).length) (hv:(ag=E6∧v=.agg (((xs.flatMap qa.flat).drop q).take n))∨(ag=E0∧((xs.flatMap qa.flat).drop q).take n=[v])):Val P C a o w v:=by
 obtain⟨r0,r,cap,hb,hT,hq⟩:=q6l (zt he h1 e1)
 obtain⟨vs,k1,k2,_⟩:=jfq m hb hT gd
 have k3:aM C (((xs.flatMap qa.flat).drop q).take n) ((vs.drop q).take n):=(k1.drop q).take n
 have k4:∀j u,((vs.drop q).take n)[j]?=I u→w.cell? ⟨r,q+j,En⟩=I u:=by
  intro j u hj
  rw[S1]at hj
  split at hj
  ·rw[List.getElem?_drop]at hj;exact(k2 _ _ hj).1
  ·cases hj
 have k5:((vs.drop q).take n).length=n:=by rw[k3.length,Td,List.length_drop];omega
 rcases hv with⟨rfl,rfl⟩|⟨rfl,hv⟩
 ·exact⟨.agg ⟨(vs.drop q).take n⟩,by simp[execOp,ho,Instr.loadAt,hq,Instr.sureAddr,Fe hg hn k5 k4],.agg _ _ k3⟩
 ·rw[hv]at k3
  generalize hgen:(vs.drop q).take n=us at k3 k4 k5
  cases k3 with
  |cons _ _ u us hu jR=>
   cases jR
   refine⟨u,?_,hu⟩
   have:=Ff (P:=P) hg (by simpa using k4 0 u rfl)
   simp[execOp,ho,Instr.loadAt,hq,Instr.sureAddr,this]
def ay.tok (C:ay)(x:Nat×Nat×Nat×Nat):ay:={ C with T:=fun q=>C.T q∨q=x }
theorem ay.gf {x:Nat×Nat×Nat×Nat}:C.le (C.tok x):=⟨fun _ _ _ h=>h,fun _ _ h=>h,rfl,fun _ h=>h,fun _ h=>.inl h⟩
theorem aF.tok {x:Nat×Nat×Nat×Nat}{B:Nat}{ℓ:Loc}{y:qa}{v:Value}(h:aF C ω w B ℓ y v):aF (C.tok x) ω w B ℓ y v:=by
 unfold aF at *
 exact h
theorem aj.tok {x:Nat×Nat×Nat×Nat}{B:Nat}(e:aj C ω w B env tmps):aj (C.tok x) ω w B env tmps:=
 fun s y hy=>let ⟨v,h1,h2,h3⟩:=e s y hy; ⟨v,h1,qp.mono ay.gf h2,fun h=>(h3 h).tok⟩
theorem av.pQ (m:av P C ω w0 C0 hp w){b r sz bz q cap:Nat}{xs:List qa}(hβ:C.β b=I r)(hT:∀x,C.T x→x.1=r→x.2.1<bz)(hv:dP C.K w q sz xs cap)(ho:q=r∨wS C ω w w0.heap.size b q xs.length cap)(hr:∃cs t,w.heap[r]?=I (.cells cs t (0,0))):
  av P (C.tok (r,bz,q,cap)) ω w0 C0 (hp.set b (.vec sz bz xs)) w:=by
 have aY:=m.lt b r hβ
 refine { m with lt:=fun k p hk=>by rw[Tj];exact m.lt k p hk,grown:=ay.le_trans m.grown ay.gf,box:=?_,gY:=?_ }
 ·intro k y p hy hk
  by_cases lu:k=b
  ·subst lu
   rw[Mt aY.2]at hy
   cases hy
   obtain rfl:r=p:=by have:C.β k=I p:=hk;rw[hβ]at this;exact I.inj this
   refine⟨q,cap,.inr rfl,fun x hx hxr=>?_,hv,ho.imp id fun h=>h.tok,hr⟩
   rcases hx with hx|rfl
   ·have:=hT x hx hxr
    exact⟨by omega,fun h=>by omega⟩
   ·exact⟨Gy _,fun _=>rfl⟩
  ·rw[St (Ne.symm lu)]at hy
   have ub:p≠r:=fun h=>lu (m.inj k b p hk (h▸hβ))
   refine(m.box k y p hy hk).mono ay.gf (fun j z u h=>h.tok) (fun x hx hxp=>?_)
   rcases hx with hx|rfl
   ·exact hx
   ·exact absurd hxp.symm ub
 ·intro x hx
  rcases hx with hx|rfl
  ·exact m.gY x hx
  ·exact aY.1
theorem av.pR (m:av P C ω w0 C0 hp w){b r:Nat}(hβ:C.β b=I r)(hr:∃cs t,w.heap[r]?=I (.cells cs t (0,0))):av P C ω w0 C0 (hp.set b .dead) w:=
 m.dx (ω':=ω) (w':=w) (r:=r) (b:=b) ⟨rfl,fun _ _=>rfl,fun c t fr h=>by obtain⟨cs,t',h'⟩:=hr;rw[h']at h;cases h;rfl,rfl,rfl⟩ hβ .dead (fun _ _ _ _ _ h=>h) hr
theorem av.zQ (m:av P C ω w0 C0 hp w){b q n cap:Nat}{cs:Array Value}(hd:hp[b]?=I .dead)(ho:wS C ω w w0.heap.size b q n cap)(hu:jm w w' q cs):av P C ω w0 C0 hp w':=by
 obtain⟨h1,h2,h3,_,_,⟨cells,elem,h5,_⟩,h7⟩:=ho
 simp only at h1 h2 h3 h5 h7
 have hK:∀o,C.K q o=En:=fun o=>h7 o (by simp)
 refine { base:=m.base,know:=?_,cR:=m.cR,apart:=m.apart,inj:=m.inj,lt:=?_,size:=?_,frame:=?_,eN:=?_,os:=hu.os.trans m.os,output:=hu.output.trans m.output,fresh:=m.fresh,grown:=m.grown,old:=m.old,box:=?_,gY:=fun x hx=>by rw[hu.size];exact m.gY x hx }
 ·intro k p v hk
  have bA:k≠q:=fun h=>by rw[h,hK p]at hk;cases hk
  have hc:=m.know _ _ _ hk
  simp only[World.cell?]at hc ⊢
  rw[hu.other k bA];exact hc
 ·intro k p hk;rw[hu.size];exact m.lt k p hk
 ·rw[hu.size];exact m.size
 ·intro k hk hn hw
  have bA:k≠q:=fun h=>by
   subst h
   rcases h2 with h|h
   ·omega
   ·rw[m.grown.w]at h;exact hw h
  rw[hu.other k bA];exact m.frame k hk hn hw
 ·intro k hk
  have bA:k≠q:=fun h=>by
   subst h
   have:=m.eN k hk
   rw[h5]at this;cases this
  rw[hu.other k bA];exact m.eN k hk
 ·intro k x p hx hk
  have bA:p≠q:=fun h=>h3 k (h▸hk)
  by_cases lu:k=b
  ·subst lu
   rw[hd]at hx
   cases hx
   obtain⟨dV,t',hg⟩:=m.box k .dead p hd hk
   exact⟨dV,t',by rw[hu.other p bA];exact hg⟩
  ·exact(m.box k x p hx hk).ia hu bA (fun j=>by rw[h1];intro h;injection h with h;injection h with h _;exact lu h.symm)
theorem qsx {sz:Nat}:∀ {xs:List qa} (n:Nat),(∀x∈xs,x.flat.length=sz)→(xs.take n).flatMap qa.flat=(xs.flatMap qa.flat).take (n*sz)
 | [],n,_=>by simp
 |x::xs,0,_=>by simp
 |x::xs,n+1,h=>by
  have hx:=h x (S6 ..)
  have h1:x.flat.take ((n+1)*sz)=x.flat:=List.take_of_length_le (by rw[hx,Nat.succ_mul];omega)
  have h2:(n+1)*sz-sz=n*sz:=by rw[Nat.succ_mul];omega
  rw[List.take_succ_cons,N4,N4,qsx n (fun y hy=>h y (Sw _ hy)),List.take_append,hx,h1,h2]
theorem dP.grown {K:Nat→Nat→Option Value}{q q' sz len cap jV:Nat}{xs ys:List qa}{news dZ:List Value}{dm:Array Value}{t':TypeId}(h:dP K w q sz xs cap)(hl:len≤xs.length)(cH:aM (.bM K) (ys.flatMap qa.flat) news)(fi:∀y∈ys,y.flat.length=sz)(cI:∀v∈news,v.oneCell'=E6)
  (hold:∀vs:List Value,aM (.bM K) (xs.flatMap qa.flat) vs→(∀(j:Nat) v,vs[j]?=I v→w.cell? ⟨q,j,En⟩=I v)→dZ=vs.take (len*sz)) (hcap:len+ys.length≤jV) (cf:jV*sz≤dm.size)
  (hg:w'.heap[q']?=I (.cells dm t' (0,0))) (hc:∀(j:Nat) v,(dZ++news)[j]?=I v→dm[j]?=I v):dP K w' q' sz (xs.take len++ys) jV:=by
 obtain⟨cells,t,vs,g1,g2,g3,g4,g5,g6,g7⟩:=h
 have ho:dZ=vs.take (len*sz):=hold vs g5 (fun j v hj=>by
  unfold World.cell?
  rw[g1]
  simp only[Hh,Gm,if_false]
  exact g6 j v hj)
 refine⟨dm,t',dZ++news,hg,by rw[S7,Td];omega,cf,?_,?_,hc,?_⟩
 ·intro x hx
  rcases Tl.1 hx with hx|hx
  ·exact g4 x (S0 hx)
  ·exact fi x hx
 ·rw[List.flatMap_append,qsx len g4,ho]
  exact(g5.take _).append cH
 ·intro v hv
  rcases Tl.1 hv with hv|hv
  ·rw[ho]at hv;exact g7 v (S0 hv)
  ·exact cI v hv
theorem aM.pure {xs:List qa}{vs:List Value}(h:aM C xs vs)(hb:zu 0 xs=E6):aM (.bM C.K) xs vs:=
 qp.shift (C:=C) (C':=.bM C.K) 0 (fun _ _ _ h=>h) (fun b r aY=>by omega) h hb
theorem SC {n:Nat}:∀ {xs:List qa},zu n xs=E6→zu n (xs.flatMap qa.flat)=E6
 | [],_=>rfl
 |x::xs,h=>by
  simp only[zu,E4]at h
  have key:∀(ys zs:List qa),zu n ys=E6→zu n zs=E6→zu n (ys++zs)=E6:=by
   intro ys zs
   induction ys with
   |nil=>intro _ h;exact h
   |cons y ys ih=>intro h1 h2;simp only[zu,E4,List.cons_append]at h1 ⊢;exact⟨h1.1,ih h1.2 h2⟩
  rw[N4]
  exact key _ _ (by rw[L5];exact h.1) (SC h.2)
theorem aM.fun {xs:List qa}:∀ {vs ws:List Value},aM C xs vs→aM C xs ws→vs.length=ws.length:=fun h k=>by rw[h.length,k.length]
theorem jg9 (m:av P C ω w0 C0 hp w)(e:aj C ω w w0.heap.size env a.tmps){c:Call}{t u el:TypeId}{ut:TypeDesc}{x y:Operand}{x' y':qh}{sz b bx bz len:Nat}{xs ys:List qa}{vy:qa}{h':j8}
  (ho:o.op=.call c) (dB:c.callee=.builtin .append) (dK:c.args.toList=[x,y]) (dY:c.argTypes.toList=[t,u]) (ht:P.underlying t=I (.slice el)) (hu:P.underlying u=I ut) (iN:zb ut=E6)
  (hn:yg P el=I sz) (hb:nA P el=I b) (h1:zq x=I x') (h2:zq y=I y') (e1:zc env x'=I (.ak bx bz len)) (e2:zc env y'=I vy) (cy:kj sz vy=I ys)
  (gd:hp[bx]?=I (.vec sz bz xs)) (hle:len≤xs.length) (hlen:len+ys.length≤1073741824) (iM:b≤4096) (SD:zu 0 ys=E6) (hzero:∃z,ek P el=I z∧z.length=sz)
  (bq:yl hp bx (.vec sz (bz+1) (xs.take len++ys))=I h'):
  ∃v w',(execOp a.eval o).run P w=.ok (.value v) w'∧kf P C0 w0 C a.tmps d env ⟨.ak bx (bz+1) (len+ys.length),E0,En,h'⟩ v w':=by
 have fJ:h'=hp.set bx (.vec sz (bz+1) (xs.take len++ys)):=by
  unfold yl at bq
  cases vq:Nat.blt bx hp.length with
  |false=>simp[vq]at bq
  |true=>simpa[vq]using bq.symm
 subst fJ
 have ha:c.args=#[x,y]:=by apply Gc;simpa using dK
 have jS:c.argTypes=#[t,u]:=by apply Gc;simpa using dY
 obtain⟨i,hi,pM⟩:∃i,P.info? el=I i∧i.bytes=b:=by
  unfold nA at hb
  cases hi:P.info? el with
  |none=>simp[hi]at hb
  |some i=>exact⟨i,rfl,by simpa[hi]using hb⟩
 have jT:i.size=sz:=by
  unfold yg at hn;rw[hi]at hn;simpa using hn
 obtain⟨z,hz,zL⟩:=hzero
 obtain⟨zv,mI⟩:∃zv,i.zero=I zv:=by
  unfold ek at hz;rw[hi]at hz
  cases hq:i.zero with
  |none=>simp[hq]at hz
  |some v=>exact⟨v,rfl⟩
 have ry:=zt e.bV h2 e2
 obtain⟨news,hs,cH,fi,cI⟩:=Mh m hu iN cy ry
 have pS:aM (.bM C.K) (ys.flatMap qa.flat) news:=cH.pure (SC SD)
 have eA:∀ {z:Value} {w':World},(Builtin.append_ #[t,u] o.type #[a.eval x,a.eval y]).run P w=.ok z w'→(execOp a.eval o).run P w=.ok (.value z) w':=by
  intro z w' h
  simp[execOp,ho,resolve,dB,ha,jS,invoke,builtin,h]
 have mJ:news.length=ys.length*sz:=by rw[cH.length,lm ys fi]
 obtain⟨r0,q,cap,hβ,hT,hlc,hx⟩:=Mm (zt e.bV h1 e1)
 obtain⟨q',jV,k1,k2,k3,k4,k5⟩:=m.box bx _ r0 gd hβ
 have heq:=(k2 _ hT rfl).2 rfl
 simp only[Prod.mk.injEq]at heq
 obtain⟨rfl,rfl⟩:=heq
 have pT:∀x,C.T x→x.1=r0→x.2.1<bz+1:=fun x hx hr=>by have:=(k2 x hx hr).1;omega
 have vq:=(m.lt bx r0 hβ).2
 -- the old cells
 obtain⟨cells,te,vs,g1,g2,g3,g4,g5,g6,g7⟩:=id k3
 have vn:vs.length=xs.length*sz:=by rw[g5.length,lm xs g4]
 have hvle:xs.length*sz≤cap*sz:=E9 _ g2
 have hlle:len*sz≤xs.length*sz:=E9 _ hle
 have hold:∀pU:List Value,aM (.bM C.K) (xs.flatMap qa.flat) pU→(∀(j:Nat) v,pU[j]?=I v→w.cell? ⟨q,j,En⟩=I v)→vs.take (len*sz)=pU.take (len*sz):=by
  intro pU h3 h4
  have hl':pU.length=vs.length:=by rw[h3.length,g5.length]
  have:pU=vs:=by
   apply Tb
   intro j
   by_cases hj:j<vs.length
   ·have h5:=h4 j _ (Ge (by omega))
    have h6:=g6 j _ (Ge hj)
    unfold World.cell? at h5
    rw[g1]at h5
    simp only[Hh,Gm,if_false]at h5
    rw[Ge hj,Ge (by omega),←h5,h6]
   ·rw[Sj (by omega),Sj (by omega)]
  rw[this]
 by_cases dR:len+ys.length≤cap
 ·-- there is room
  have fZ:(len+ys.length)*sz≤cap*sz:=E9 _ dR
  rw[So]at fZ
  have bm:=Sn (P:=P) (w:=w) (ty:=o.type) ht hi q 0 len cap (a.eval y) ys.length news (jT▸hs) dR g1 (by rw[jT,mJ];omega)
  rw[←hx,jT]at bm
  have oX:=E2 g1 (cells.toList.take (0+len*sz)++news++cells.toList.drop (0+len*sz+news.length)).toArray
  have lx:=setRow_heap w q cells (cells.toList.take (0+len*sz)++news++cells.toList.drop (0+len*sz+news.length)).toArray te (0,0) g1
  generalize Sm:w.setRow q (cells.toList.take (0+len*sz)++news++cells.toList.drop (0+len*sz+news.length)).toArray=w' at bm oX lx
  have zR:dP C.K w' q sz (xs.take len++ys) cap:=by
   refine dP.grown (dZ:=vs.take (len*sz)) k3 hle pS fi cI hold dR (by simp;omega) lx ?_
   intro j v hj
   rw[Gb]
   have dY:(cells.toList.take (0+len*sz)).length=len*sz:=by simp;omega
   have ly:(vs.take (len*sz)).length=len*sz:=by simp;omega
   by_cases SE:j<len*sz
   ·rw[Tc,Gd (by rw[dY];exact SE)]
    rw[Gd (by rw[ly];exact SE),Sc SE]at hj
    rw[Sc (by omega),Ga]
    exact g6 j v hj
   ·rw[N0 (by rw[ly];omega),ly]at hj
    have hjn:j-len*sz<news.length:=(E3.1 hj).1
    rw[Tc,N0 (by rw[dY];omega),dY,Gd hjn]
    exact hj
  have fin:∀(m1:av P C ω w0 C0 (hp.set bx .dead) w') (e1:aj C ω w' w0.heap.size env a.tmps) (Fc:q=r0∨wS C ω w' w0.heap.size bx q (xs.take len++ys).length cap) (vr:∃cs t,w'.heap[r0]?=I (.cells cs t (0,0))),
    kf P C0 w0 C a.tmps d env ⟨.ak bx (bz+1) (len+ys.length),E0,En,hp.set bx (.vec sz (bz+1) (xs.take len++ys))⟩ (.slice (I ⟨q,0,En⟩) (len+ys.length) cap) w':=by
   intro m1 e1 Fc vr
   have m2:=m1.pQ (b:=bx) (sz:=sz) (bz:=bz+1) (q:=q) (cap:=cap) (xs:=xs.take len++ys) hβ pT zR Fc vr
   rw[S9]at m2
   exact⟨_,ω,ay.gf,m2,e1.tok,.ak _ _ _ r0 q cap hβ (.inr rfl) dR,by simp⟩
  refine⟨_,_,eA bm,?_⟩
  rcases k4 with rfl|k4
  ·refine fin ?_ (e.di oX.ia hβ) (.inl rfl) ⟨_,_,lx⟩
   exact m.dx oX.ia hβ .dead (fun _ _ _ _ _ h=>h) ⟨_,_,lx⟩
  ·have hqr:q≠r0:=fun h=>k4.2.2.1 bx (by rw[hβ];exact congrArg I h.symm)
   have md:=m.pR hβ k5
   have m1:=md.zQ (by rw[Mt vq]) k4 oX
   obtain⟨SF,t5,k5⟩:=k5
   refine fin m1 ?_ (.inr ?_) ⟨SF,t5,by rw[oX.other _ (Ne.symm hqr)];exact k5⟩
   ·exact fun s y hy=>let ⟨v,j1,j2,j3⟩:=e s y hy; ⟨v,j1,j2,fun h=>(j3 h).ia oX (by rw[k4.1];simp)⟩
   ·obtain⟨j1,j2,j3,j4,j5,_,j7⟩:=k4
    exact⟨j1,j2,j3,j4,j5,⟨_,te,lx,by simp,fun _ _ _ h=>by simp at h⟩,fun o ho=>j7 o (by simp)⟩
 ·-- there is none
  have cf:Builtin.nextslicecap (len+ys.length) cap*i.bytes≤281474976710656:=growslice_fits (by omega) (by
   rw[pM]
   exact Hq (My hlen iM) (by decide))
  have Fm:(vs.take (len*sz)).length=len*i.size:=by rw[jT];simp;omega
  have bm:=run_append_grow_src w t u o.type el i zv ht hi mI (I ⟨q,0,En⟩) len cap (vs.take (len*sz)) (run_firstCells_some _ _ _ _ _ _ _ Fm (fun j v hj=>by
   rw[S1]at hj
   split at hj
   ·have h3:=g6 j v hj
    have h4:w.cell? ⟨q,j,En⟩=I v:=by
     unfold World.cell?
     rw[g1]
     simp only[Hh,Gm,if_false]
     exact h3
    rw[add_lit,Ta]
    exact h4
   ·cases hj)) (a.eval y) ys.length news (jT▸hs) (by omega) (by omega) cf
  rw[←hx]at bm
  have uh:=grownCap_ge w (len+ys.length) cap el
  have gM:zv.cells.size=sz:=by
   obtain⟨_,zv',lj,E7,_⟩:=uf (C:=C) hz
   have:=lj w
   simp[zeroValue,typeInfo,hi,mI]at this
   subst this
   have:=E7.length
   simp at this
   omega
  generalize ea:((vs.take (len*sz)++news).toArray++Builtin.zeroCells zv.cells (grownCap w (len+ys.length) cap el-(len+ys.length)))=dm at bm
  generalize SG:grownCap w (len+ys.length) cap el=gc at bm uh ea
  have ic:Ext w w.drew:=Ext.drew w
  have SH:Ext w.drew (w.drew.alloc (.cells dm el)):=Ext.alloc _ _ (fun c t fr h=>by cases h;rfl)
  have Fo:(w.drew.alloc (.cells dm el)).heap[w.drew.heap.size]?=I (.cells dm el (0,0)):=by rw[vk,if_pos rfl]
  have zR:dP C.K (w.drew.alloc (.cells dm el)) w.drew.heap.size sz (xs.take len++ys) gc:=by
   refine dP.grown (dZ:=vs.take (len*sz)) k3 hle pS fi cI hold uh ?_ Fo ?_
   ·rw[←ea]
    have ly:(vs.take (len*sz)).length=len*sz:=by simp;omega
    simp only[N2,N3,S7,ly,mJ]
    have:(Builtin.zeroCells zv.cells (gc-(len+ys.length))).size=(gc-(len+ys.length))*sz:=by simp[Builtin.zeroCells,gM]
    rw[this,←So,←So]
    exact E9 _ (by omega)
   ·intro j v hj
    rw[←ea,Hb (by simpa using(E3.1 hj).1)]
    simpa using hj
  have md:=((m.pR hβ k5).ext ic).jQ w.drew.heap.size (.cell bx 0) (Gy _)
  have m1:=md.ext SH
  obtain⟨SF,t5,k5⟩:=k5
  have m2:=m1.pQ (b:=bx) (sz:=sz) (bz:=bz+1) (q:=w.drew.heap.size) (cap:=gc) (xs:=xs.take len++ys) hβ pT zR (.inr ⟨by simp[ct],.inl (Hq m.size ic.size),fun k hk=>by have:=(m.lt k _ hk).1;simp at this,rfl,rfl,⟨dm,el,Fo,by simp,fun _ _ _ h=>by simp at h⟩,fun o _=>m.jC _ ic.size o⟩) ⟨SF,t5,(ic.trans SH).get k5⟩
  rw[S9]at m2
  refine⟨_,_,eA bm,_,_,ay.gf,m2,(((e.ext ic).fresh (Gy _)).ext SH).tok,.ak _ _ _ r0 _ gc hβ (.inr rfl) (by omega),by simp⟩
theorem jby (m:av P C ω w0 C0 hp w)(e:aj C ω w w0.heap.size env tmps){bx sz cap:Nat}{xs:List qa}{cells:Array Value}{te:TypeId}{vs:List Value}(hh:hp[bx]?=I .hole)(Mn:aM C (xs.flatMap qa.flat) vs)(zS:zu 0 xs=E6)(cD:∀x∈xs,x.flat.length=sz)
  (cI:∀v∈vs,v.oneCell'=E6) (hc:∀(j:Nat) v,vs[j]?=I v→cells[j]?=I v) (hcap:xs.length≤cap) (cf:cap*sz≤cells.size):
  kf P C0 w0 C tmps d env ⟨.ak bx 0 xs.length,E0,En,hp.set bx (.vec sz 0 xs)⟩ (.slice (I ⟨w.heap.size,0,En⟩) xs.length cap) (w.alloc (.cells cells te)):=by
 obtain⟨m1,e1,zT⟩:=m.aJ e hh (.cells cells te) (fun c t fr h=>by cases h;rfl) .dead (fun C' ω' w' _ hg=>⟨cells,te,hg⟩)
 have Fo:(w.alloc (.cells cells te)).heap[w.heap.size]?=I (.cells cells te (0,0)):=by rw[vk,if_pos rfl]
 have hβ:(C.box bx w.heap.size).β bx=I w.heap.size:=by simp[ay.box]
 have m2:=m1.pQ (b:=bx) (r:=w.heap.size) (sz:=sz) (bz:=0) (q:=w.heap.size) (cap:=cap) (xs:=xs) hβ (fun x hx hr=>by have:=m.gY x hx;omega) ⟨cells,te,vs,Fo,hcap,cf,cD,Mn.pure (SC zS),hc,cI⟩ (.inl rfl) ⟨cells,te,Fo⟩
 rw[S9]at m2
 exact⟨_,ω,ay.le_trans zT ay.gf,m2,e1.tok,.ak _ _ _ w.heap.size w.heap.size cap hβ (.inr rfl) hcap,by simp⟩
theorem jev (m:av P C ω w0 C0 hp w)(e:aj C ω w w0.heap.size env a.tmps){c:Call}{t u el:TypeId}{ut:TypeDesc}{x y:Operand}{x' y':qh}{sz SI b h0 rk:Nat}{ys:List qa}{vy:qa}{h':j8}
  (ho:o.op=.call c) (dB:c.callee=.builtin .append) (dK:c.args.toList=[x,y]) (dY:c.argTypes.toList=[t,u]) (ht:P.underlying t=I (.slice el)) (hu:P.underlying u=I ut) (iN:zb ut=E6)
  (hn:yg P el=I sz) (hb:nA P el=I b) (h1:zq x=I x') (h2:zq y=I y') (e1:zc env x'=I (.list E6 SI [])) (e2:zc env y'=I vy) (cy:kj sz vy=I ys)
  (hlen:ys.length≤1073741824) (bA:ys≠[]) (iM:b≤4096) (SD:zu 0 ys=E6) (hzero:∃z,ek P el=I z∧z.length=sz) (cZ:aJ h0 hp rk (.vec sz 0 ys)=I h'):
  ∃v w',(execOp a.eval o).run P w=.ok (.value v) w'∧kf P C0 w0 C a.tmps d env ⟨.ak (h0+rk) 0 ys.length,E0,En,h'⟩ v w':=by
 obtain⟨hh,rfl⟩:=lv cZ
 have ha:c.args=#[x,y]:=by apply Gc;simpa using dK
 have jS:c.argTypes=#[t,u]:=by apply Gc;simpa using dY
 obtain⟨i,hi,pM⟩:∃i,P.info? el=I i∧i.bytes=b:=by
  unfold nA at hb
  cases hi:P.info? el with
  |none=>simp[hi]at hb
  |some i=>exact⟨i,rfl,by simpa[hi]using hb⟩
 have jT:i.size=sz:=by
  unfold yg at hn;rw[hi]at hn;simpa using hn
 obtain⟨z,hz,zL⟩:=hzero
 obtain⟨zv,mI⟩:∃zv,i.zero=I zv:=by
  unfold ek at hz;rw[hi]at hz
  cases hq:i.zero with
  |none=>simp[hq]at hz
  |some v=>exact⟨v,rfl⟩
 have ry:=zt e.bV h2 e2
 obtain⟨news,hs,cH,fi,cI⟩:=Mh m hu iN cy ry
 have eA:∀ {z:Value} {w':World},(Builtin.append_ #[t,u] o.type #[a.eval x,a.eval y]).run P w=.ok z w'→(execOp a.eval o).run P w=.ok (.value z) w':=by
  intro z w' h
  simp[execOp,ho,resolve,dB,ha,jS,invoke,builtin,h]
 have mJ:news.length=ys.length*sz:=by rw[cH.length,lm ys fi]
 have hx:a.eval x=.slice En 0 0:=by
  rcases(zt e.bV h1 e1).cG with⟨_,_,hx⟩|⟨hf,_⟩|⟨hf,_⟩
  ·exact hx
  ·cases hf
  ·cases hf
 have gO:0<ys.length:=List.length_pos_iff.2 bA
 have cf:Builtin.nextslicecap (0+ys.length) 0*i.bytes≤281474976710656:=growslice_fits (by omega) (by
  rw[pM]
  exact Hq (My (by omega) iM) (by decide:2^30*4096≤_))
 have bm:=run_append_grow_src w t u o.type el i zv ht hi mI En 0 0 [] (run_firstCells_none _ _ _ _ _) (a.eval y) ys.length news (jT▸hs) (by omega) (by omega) cf
 rw[←hx]at bm
 have uh:=grownCap_ge w (0+ys.length) 0 el
 have gM:zv.cells.size=sz:=by
  obtain⟨_,zv',lj,E7,_⟩:=uf (C:=C) hz
  have:=lj w
  simp[zeroValue,typeInfo,hi,mI]at this
  subst this
  have:=E7.length
  simp at this
  omega
 generalize ea:(([]++news).toArray++Builtin.zeroCells zv.cells (grownCap w (0+ys.length) 0 el-(0+ys.length)))=dm at bm
 generalize SG:grownCap w (0+ys.length) 0 el=gc at bm uh ea
 have ic:Ext w w.drew:=Ext.drew w
 have:=jby (d:=d) (tmps:=a.tmps) (m.ext ic) (e.ext ic) (te:=el) (cap:=gc) (sz:=sz) (cells:=dm) hh cH SD fi cI (fun j v hj=>by
  rw[←ea,Mw,Hb (by simpa using(E3.1 hj).1)]
  simpa using hj) (by omega) (by
   rw[←ea]
   have h5:(Builtin.zeroCells zv.cells (gc-(0+ys.length))).size=(gc-(0+ys.length))*sz:=by simp[Builtin.zeroCells,gM]
   simp only[N2,N3,Mw,mJ,h5]
   rw[←So]
   exact E9 _ (by omega))
 rw[Ta]at bm
 exact⟨_,_,eA bm,this⟩
theorem jia (m:av P C ω w0 C0 hp w)(e:aj C ω w w0.heap.size env a.tmps){t el:TypeId}{ps:Array (Nat×Operand)}{len sz h0 rk:Nat}{z:List qa}{ft:List (Nat×qh)}{qs:List (Nat×qa)}{xs:List qa}{h':j8}
  (ho:o.op=.buildSlice t len ps) (ht:P.underlying t=I (.slice el)) (hn:yg P el=I sz) (hz:ek P el=I z) (hlen:sz*len≤65536) (Sx:0<sz) (gM:z.length=sz)
  (lX:wP ps.toList=I ft) (hq:iA env sz ft=I qs) (hx:lb (Ma len (ud sz z)) qs=I xs) (zS:zu 0 xs=E6) (cZ:aJ h0 hp rk (.vec sz 0 xs)=I h'):
  ∃v w',(execOp a.eval o).run P w=.ok (.value v) w'∧kf P C0 w0 C a.tmps d env ⟨.ak (h0+rk) 0 xs.length,E0,En,h'⟩ v w':=by
 obtain⟨hh,rfl⟩:=lv cZ
 obtain⟨ds,bm,hdr,h1,oW,jF,cf⟩:=qmw (C:=C) (ω:=ω) (w:=w) (w0:=w0) e ho ht hn hz hlen Sx gM lX hq hx
 refine⟨_,_,bm,?_⟩
 have ez:=jby (d:=d) (tmps:=a.tmps) m e (te:=el) (cap:=len) (sz:=sz) (cells:=ds) hh hdr zS oW h1 (by intro j v h;simpa using h) (by omega) cf
 rw[jF]at ez ⊢
 exact ez
theorem jad (m:av P C ω w0 C0 hp w)(e:aj C ω w w0.heap.size env a.tmps){t:TypeId}{z:List qa}(ho:o.op=.alloc t)(hz:ek P t=I z):
  ∃v w',(execOp a.eval o).run P w=.ok (.value v) w'∧kf P C0 w0 C a.tmps d env ⟨.cE z.length,E6,En,hp⟩ v w':=by
 obtain⟨_,zv,kM,cw,lj⟩:=uf (C:=C) hz
 have hx:Ext w (w.alloc (.cells zv.cells t)):=Ext.alloc w _ (fun c t fr h=>by cases h;rfl)
 have gM:zv.cells.size=z.length:=by have:=cw.length;simpa using this
 refine⟨.pointer (I ⟨w.heap.size,0,En⟩),_,by simp[execOp,ho,Instr.alloc,kM,newVar,newRow],C,Abs.ct ω w.heap.size d,ay.le_refl C,(m.jQ _ d (Gy _)).ext hx,(e.fresh (Gy _)).ext hx,.cE _ _,fun _=>?_⟩
 refine⟨by simp[Abs.ct],.inl m.size,fun b hb=>by have:=(m.lt b _ hb).1;simp at this,rfl,rfl,⟨zv.cells,t,by rw[vk,if_pos rfl],by simp;omega,fun _ _ _ h=>by simp at h⟩,fun o _=>m.jC _ (Gy _) o⟩
theorem q9r (m:av P C ω w0 C0 hp w)(e:aj C ω w w0.heap.size env a.tmps){t:TypeId}{x y:Operand}{y':qh}{n s:Nat}{v:qa}(ho:o.op=.store t x y)(hn:yg P t=I n)
  (h1:zq x=I (.tmp s)) (h2:zq y=I y') (hl:yd s env=I (.cE n,E6)) (e2:zc env y'=I v) (vn:v.flat.length=n) (hs:v.flat.all ze=E6):
  ∃w' C' ω',(execOp a.eval o).run P w=.ok .skip w'∧C.le C'∧av P C' ω' w0 C0 hp w'∧aj C' ω' w' w0.heap.size ((s,.ah v,E0)::env) a.tmps:=by
 obtain⟨cv,c1,c2,c3⟩:=e s _ hl
 have eg:a.eval x=cv:=by
  cases x with
  |tmp t'=>
   simp only[zq]at h1
   cases h1
   simp[Act.eval,Nf,c1]
  |const u=>simp only[zq]at h1;split at h1<;>cases h1
  |func f=>simp[zq]at h1
  |global g=>simp[zq]at h1
 cases c2 with
 |cE _ ad=>
  obtain⟨hω,hB,hβ,lW,vm,⟨cells,te,hg,cf,_⟩,hK⟩:=c3 rfl
  obtain⟨r,q,sp⟩:=ad
  simp only at hω hB hβ lW vm hg cf hK
  subst lW
  subst vm
  have ry:=zt e.bV h2 e2
  have hc:=zE ry hs
  have cI:=zG hc (fun y hy=>List.all_eq_true.1 hs y hy)
  have du:(a.eval y).cells.toList.length=n:=by rw[hc.length,vn]
  have bm:=Sv (P:=P) (t:=t) (off:=0) hn du hg (by omega) cI
  obtain⟨m',e',hle⟩:=qvt (d:=.slot s) m e (r:=r) (q:=0) (news:=(a.eval y).cells.toList) hω hB hβ hg (by omega) (fun o _=>hK o (by simp)) cI
  refine⟨_,_,_,?_,hle,m',?_⟩
  ·simp only[execOp,ho,Instr.storeAt,Sem.run_bind,eg,Instr.sureAddr,Sem.run_pure,Result.andThen_ok,bm]
  ·intro t' z hz
   by_cases lq:t'=s
   ·subst lq
    simp only[yd,Nat.beq_refl,cT,I.injEq]at hz
    subst hz
    exact⟨_,c1,.ah _ _ _ (ay.eK (fun o _=>hK o (by simp)) hc),by simp⟩
   ·have hb:Gz s t'=E0:=by
     cases hb:Gz s t' with
     |false=>rfl
     |true=>exact absurd (E1 hb).symm lq
    simp only[yd,hb,cond_false]at hz
    refine e' t' z ?_
    simp only[kz,hl,yd,hb,cond_false]
    exact hz
end
section
variable {P:Program}{C C0:ay}{ω:Nat→Option Loc}{w w' w0:World}{hp:j8}{env:Env}{a:Act}{o:Oper}{tmps:Array Value}{d:Loc}
def jI (w:World)(r:Nat)(x:Obj):World:={ w with heap:=w.heap.setIfInBounds r x }
theorem Fp {r:Nat}{x:Obj}(h:r<w.heap.size):(jI w r x).heap[r]?=I x:=by
 show(w.heap.setIfInBounds r x)[r]?=_
 rw[Array.getElem?_setIfInBounds_self_of_lt h]
theorem Dr {r:Nat}{x:Obj}(h:r<w.heap.size)(hx:∀c t fr,x=.cells c t fr→fr=(0,0)):jk w (jI w r x) r where
 size:=by simp[jI]
 other k hk:=by
  show(w.heap.setIfInBounds r x)[k]?=_
  rw[Array.getElem?_setIfInBounds_ne (Ne.symm hk)]
 fz c t fr hc:=by
  rw[Fp h]at hc
  exact hx c t fr (I.inj hc)
 os:=rfl
 output:=rfl
theorem wZ {r:Nat}{x y:Obj}(h:w.heap[r]?=I y)(hy:∀c t f,y≠.cells c t f):(setObj r x).run P w=.ok () (jI w r x):=by
 cases y with
 |cells c t f=>exact absurd rfl (hy c t f)
 |_=>simp[setObj,Sem.run,jI,h]
theorem oY {r:Nat}{y:Obj}(h:w.heap[r]?=I y)(hy:∀c t f,y≠.cells c t f):(getObj r).run P w=.ok y w:=by
 cases y with
 |cells c t f=>exact absurd rfl (hy c t f)
 |_=>simp[getObj,Sem.run,h]
theorem jdg (m:av P C ω w0 C0 hp w)(e:aj C ω w w0.heap.size env a.tmps){x:Operand}{x':qh}{b pos:Nat}{s:List UInt8}(ho:o.op=.next x E6)(h1:zq x=I x')(e1:zc env x'=I (.ptr b 0))(gd:hp[b]?=I (.iter s pos)):
  (pos<s.length→∀h',yl hp b (.iter s (pos+(zg s pos).2))=I h'→∃v w',(execOp a.eval o).run P w=.ok (.value v) w'∧kf P C0 w0 C a.tmps d env ⟨.aB [.bool E6,.int .i64 pos,.int .i32 (zg s pos).1],E0,En,h'⟩ v w') ∧
  (¬pos<s.length→∃v w',(execOp a.eval o).run P w=.ok (.value v) w'∧kf P C0 w0 C a.tmps d env ⟨.aB [.bool E0],E0,En,hp⟩ v w'):=by
 obtain⟨r,hr,hq⟩:=(zt e.bV h1 e1).cW
 have ga:w.heap[r]?=I (.stringIter ⟨⟨s⟩⟩ pos):=m.box b _ r gd hr
 have aY:=(m.lt b r hr).1
 have cD:(⟨⟨s⟩⟩:ByteArray).size=s.length:=rfl
 constructor
 ·intro gO h' bq
  obtain rfl:=zM bq
  have hu:=Dr (w:=w) (r:=r) (x:=.stringIter ⟨⟨s⟩⟩ (pos+(zg s pos).2)) aY (by simp)
  refine⟨.tuple #[.bool E6,goInt pos,.int .i32 (zg s pos).1],jI w r (.stringIter ⟨⟨s⟩⟩ (pos+(zg s pos).2)),?_,C,ω,ay.le_refl C,m.dx hu hr _ (fun _ _ _ _ _ h=>h) (Fp aY),e.di hu hr,?_,by simp⟩
  ·have eh:pos<(⟨⟨s⟩⟩:ByteArray).size:=gO
   have bq:=wZ (P:=P) (x:=.stringIter ⟨⟨s⟩⟩ (pos+(zg s pos).2)) ga (by simp)
   simp only[execOp,ho,hq,Instr.next,Sem.run_bind,oY ga (by simp),Result.andThen_ok,eh,if_true]
   unfold zg at bq ⊢
   simp only[Sem.run_bind,bq,Result.andThen_ok,Sem.run_pure]
  ·refine .aB _ _ (.cons _ _ _ _ (.bool _) (.cons _ _ _ _ ?_ (.cons _ _ _ _ (.int _ _) .nil)))
   exact .int _ _
 ·intro gO
  have eh:¬pos<(⟨⟨s⟩⟩:ByteArray).size:=gO
  refine⟨.tuple #[.bool E0],w,?_,q4g m e (.aB _ _ (.cons _ _ _ _ (.bool _) .nil))⟩
  simp only[execOp,ho,hq,Instr.next,Sem.run_bind,oY ga (by simp),Result.andThen_ok,eh,if_false,Sem.run_pure]
theorem SJ {t:TypeId}{kd:Kd}(h:jP P t=I kd):(kd=.int∧∃k,P.underlying t=I (.int k))∨(kd=.str∧P.underlying t=I .string)∨(kd=.bool∧P.underlying t=I .bool):=by
 unfold jP at h
 split at h<;>first|cases h|skip
 ·exact .inl ⟨rfl,_,‹_›⟩
 ·exact .inr (.inl ⟨rfl,‹_›⟩)
 ·exact .inr (.inr ⟨rfl,‹_›⟩)
theorem qvh {t:TypeId}{td:TypeDesc}{kd:Kd}{x y:qa}{u v:Value}{b:Bool}(ht:P.underlying t=I td)(hk:jP P t=I kd)(hx:bF C x u)(hy:bF C y v)(h:kY kd x y=I b):Instr.sameNow td u v=I b∧(b=E6→x=y∧u=v∧Instr.sameBits 10000 v u=E6):=by
 rcases SJ hk with⟨rfl,k,hu⟩|⟨rfl,hu⟩|⟨rfl,hu⟩<;>rw[hu]at ht<;>cases ht
 ·cases x<;>cases y<;>simp only[kY]at h<;>first|cases h|skip
  rename_i k1 n1 k2 n2
  have e1:=hx.bH
  have e2:=hy.bH
  subst e1;subst e2
  by_cases gP:k1=k2
  ·subst gP
   simp only[decide_true,cT,I.injEq]at h
   refine⟨by simp[Instr.sameNow,h],fun hb=>?_⟩
   subst hb
   have:n1=n2:=by simpa using h
   subst this
   exact⟨rfl,rfl,by simp[Instr.sameBits]⟩
  ·simp[gP]at h
 ·cases x<;>cases y<;>simp only[kY]at h<;>first|cases h|skip
  rename_i s1 s2
  have e1:=hx.bX
  have e2:=hy.bX
  subst e1;subst e2
  have Fq:((⟨⟨s1⟩⟩:ByteArray) == ⟨⟨s2⟩⟩)=(s1 == s2):=by
   show(Array.mk s1 == Array.mk s2)=_
   simp
  refine⟨by simp only[Instr.sameNow,Fq],fun hb=>?_⟩
  have oZ:s1=s2:=by simpa using hb
  subst oZ
  refine⟨rfl,rfl,?_⟩
  simp only[Instr.sameBits,Fq]
  simp
 ·cases x<;>cases y<;>simp only[kY]at h<;>first|cases h|skip
  rename_i b1 b2
  have e1:=hx.cV
  have e2:=hy.cV
  subst e1;subst e2
  refine⟨by simp[Instr.sameNow],fun hb=>?_⟩
  have oZ:b1=b2:=by simpa using hb
  subst oZ
  exact⟨rfl,rfl,by simp[Instr.sameBits]⟩
theorem Fs {t:TypeId}{td:TypeDesc}{kd:Kd}{k:qa}{u:Value}(ht:P.underlying t=I td)(hk:jP P t=I kd)(hx:bF C k u):∀ {es:List (qa×qa)} {ms:List MapEntry} {i:Nat} {r:Option (Nat×qa)},qy C es ms→yx kd k es i=I r →
  match r with
  |none=>Instr.findNow td u ms i=I En
  |some (j,v)=>∃m,i≤j∧es[j-i]?=I (k,v)∧ms[j-i]?=I m∧m.key=u∧bF C v m.val∧Instr.findNow td u ms i=I (I (j,m.val))∧Instr.sameBits 10000 m.key u=E6
 |_,_,i,r,.nil,h=>by
  simp only[yx,I.injEq]at h
  subst h
  simp[Instr.findNow]
 |_,_,i,r,.cons k' v' es m ms h1 h2 h3,h=>by
  simp only[yx]at h
  split at h
  ·rename_i he
   cases h
   obtain⟨q1,q2⟩:=qvh ht hk hx h1 he
   obtain⟨rfl,rfl,q3⟩:=q2 rfl
   exact⟨m,Gy _,by simp,by simp,rfl,h2,by simp[Instr.findNow,q1],q3⟩
  ·rename_i he
   obtain⟨q1,_⟩:=qvh ht hk hx h1 he
   have ih:=Fs ht hk hx h3 h
   cases r with
   |none=>simp only[Instr.findNow,q1];exact ih
   |some jv=>
    obtain⟨j,v⟩:=jv
    obtain⟨m2,k1,k2,k3,k4,k5,k6,k7⟩:=ih
    refine⟨m2,by omega,?_,?_,k4,k5,by simp only[Instr.findNow,q1];exact k6,k7⟩
    ·rw[show j-i=(j-(i+1))+1 from by omega];simpa using k2
    ·rw[show j-i=(j-(i+1))+1 from by omega];simpa using k3
  ·cases h
theorem Ds {t:TypeId}{kd:Kd}(hk:jP P t=I kd)(e:Bool)(v:Value):(Instr.checkKey e 10000 t v).run P w=.ok () w:=by
 rcases SJ hk with⟨_,k,hu⟩|⟨_,hu⟩|⟨_,hu⟩<;>(unfold Instr.checkKey;simp[run_underlying hu])
theorem Ft {t:TypeId}{td:TypeDesc}{u:Value}{ms:List MapEntry}{r:Option (Nat×Value)}(ht:P.underlying t=I td)(h:Instr.findNow td u ms 0=I r):(Instr.findKey t u ms).run P w=.ok r w:=by
 simp[Instr.findKey,run_underlying ht,h]
theorem SK {t:TypeId}{kd:Kd}(hk:jP P t=I kd):∃td,P.underlying t=I td:=by
 rcases SJ hk with⟨_,k,hu⟩|⟨_,hu⟩|⟨_,hu⟩<;>exact⟨_,hu⟩
theorem SL (m:av P C ω w0 C0 hp w)(e:aj C ω w w0.heap.size env a.tmps){t kt el:TypeId}{x y:Operand}{ok:Bool}{x' y':qh}{kd:Kd}{zv mv kv:qa}{r:Option (Nat×qa)}(ho:o.op=.lookup t x y ok)(ht:P.underlying t=I (.map kt el))(hH:jP P kt=I kd)(hz:RU P el=I zv)
  (h1:zq x=I x') (h2:zq y=I y') (e1:zc env x'=I mv) (e2:zc env y'=I kv)
  (hv:(mv=.bN∧r=En)∨∃b es,mv=.map b∧hp[b]?=I (.map es)∧yx kd kv es 0=I r):
  Val P C a o w (match r with
   |some (_,v)=>bif ok then .aB [v,.bool E6]else v
   |none=>bif ok then .aB [zv,.bool E0]else zv):=by
 have gN:=zt e.bV h2 e2
 have uj:=zt e.bV h1 e1
 obtain⟨td,pV⟩:=SK hH
 obtain⟨Fu,kM,mI⟩:∃v,(∀w,(zeroValue el).run P w=.ok v w)∧bF C zv v:=by
  unfold RU at hz
  split at hz
  ·rename_i i hi
   split at hz
   ·rename_i v hv
    exact⟨v,fun w=>by simp[zeroValue,typeInfo,hi,hv],qt9 C hz⟩
   ·cases hz
  ·cases hz
 have fin:∀ {ms:List MapEntry} {rv:Option (Nat×Value)},(a.eval x=.map En∧ms=[]∨∃q clock,a.eval x=.map (I q)∧w.heap[q]?=I (.map ⟨ms⟩ clock))→Instr.findNow td (a.eval y) ms 0=I rv →
   (execOp a.eval o).run P w=.ok (.value (if ok then .tuple #[(match rv with|some (_,v)=>v|none=>Fu),.bool rv.isSome]else(match rv with|some (_,v)=>v|none=>Fu))) w:=by
  intro ms rv hm hf
  have uk:=Ft (w:=w) pV hf
  rcases hm with⟨hm,rfl⟩|⟨q,clock,hm,hq⟩
  ·cases rv<;>simp[execOp,ho,Instr.lookup,run_underlying ht,hm,Ds hH,uk,kM]
  ·cases rv<;>simp[execOp,ho,Instr.lookup,run_underlying ht,hm,oY hq (by simp),Ds hH,uk,kM]
 rcases hv with⟨rfl,rfl⟩|⟨b,es,rfl,hb,hfe⟩
 ·generalize lY:a.eval x=mx at uj
  cases uj
  refine⟨_,fin (ms:=[]) (rv:=none) (.inl ⟨lY,rfl⟩) (by simp[Instr.findNow]),?_⟩
  cases ok with
  |true=>exact .aB _ _ (.cons _ _ _ _ mI (.cons _ _ _ _ (.bool _) .nil))
  |false=>exact mI
 ·generalize lY:a.eval x=mx at uj
  cases uj with
  |map _ q oe=>
   obtain⟨bQ,clock,g1,g2⟩:=m.box b _ q hb oe
   have hf:=Fs pV hH gN g2 hfe
   cases r with
   |none=>
    refine⟨_,fin (ms:=bQ.toList) (rv:=none) (.inr ⟨q,clock,lY,g1⟩) hf,?_⟩
    cases ok with
    |true=>exact .aB _ _ (.cons _ _ _ _ mI (.cons _ _ _ _ (.bool _) .nil))
    |false=>exact mI
   |some jv=>
    obtain⟨j,v⟩:=jv
    obtain⟨me,_,_,_,_,hrv,hfn,_⟩:=hf
    refine⟨_,fin (ms:=bQ.toList) (rv:=I (j,me.val)) (.inr ⟨q,clock,lY,g1⟩) hfn,?_⟩
    cases ok with
    |true=>exact .aB _ _ (.cons _ _ _ _ hrv (.cons _ _ _ _ (.bool _) .nil))
    |false=>exact hrv
theorem qy.ia {k v:qa}:∀ {es:List (qa×qa)} {ms:List MapEntry} {j:Nat} {m:MapEntry},qy C es ms→bF C v m.val→(∀k',(es[j]?).map (·.1)=I k'→bF C k' m.key)→qy C (pG es j v) (ms.set j m)
 |_,_,j,m,.nil,_,_=>by simp[pG];exact .nil
 |_,_,0,m,.cons k' v' es m' ms h1 h2 h3,hv,hk=>by
  simp only[pG,List.set_cons_zero]
  exact .cons _ _ _ _ _ (hk k' (by simp)) hv h3
 |_,_,j+1,m,.cons k' v' es m' ms h1 h2 h3,hv,hk=>by
  simp only[pG,List.set_cons_succ]
  exact .cons _ _ _ _ _ h1 h2 (qy.ia (k:=k) h3 hv (fun k' h=>hk k' (by simpa using h)))
theorem qy.push {k v:qa}{m:MapEntry}{es:List (qa×qa)}{ms:List MapEntry}(h:qy C es ms)(hk:bF C k m.key)(hv:bF C v m.val):qy C (es++[(k,v)]) (ms++[m]):=by
 induction h with
 |nil=>exact .cons _ _ _ _ _ hk hv .nil
 |cons k' v' es m' ms h1 h2 _ ih=>exact .cons _ _ _ _ _ h1 h2 ih
theorem qpy (m:av P C ω w0 C0 hp w)(e:aj C ω w w0.heap.size env a.tmps){t kt el:TypeId}{x y z:Operand}{x' y' z':qh}{kd:Kd}{kv v:qa}{b:Nat}{es:List (qa×qa)}{h':j8}(ho:o.op=.mapUpdate t x y z∨o.op=.insert t x y z)(ht:P.underlying t=I (.map kt el))(hH:jP P kt=I kd)
  (h1:zq x=I x') (h2:zq y=I y') (h3:zq z=I z') (e1:zc env x'=I (.map b)) (e2:zc env y'=I kv) (e3:zc env z'=I v) (hb:hp[b]?=I (.map es))
  (hv:(∃i u,yx kd kv es 0=I (I (i,u))∧yl hp b (.map (pG es i v))=I h')∨(yx kd kv es 0=I En∧yl hp b (.map (es++[(kv,v)]))=I h')):
  ∃w',(execOp a.eval o).run P w=.ok .skip w'∧kf P C0 w0 C a.tmps d env ⟨.undef,E0,En,h'⟩ undef w':=by
 have gN:=zt e.bV h2 e2
 have hvr:=zt e.bV h3 e3
 have uj:=zt e.bV h1 e1
 obtain⟨td,pV⟩:=SK hH
 generalize lY:a.eval x=mx at uj
 cases uj with
 |map _ q oe=>
  obtain⟨bQ,clock,g1,g2⟩:=m.box b _ q hb oe
  have aY:=(m.lt b q oe).1
  have done:∀(zU:List (qa×qa)) (pW:Array MapEntry) (jW:Nat),qy C zU pW.toList→yl hp b (.map zU)=I h' →
    (execOp a.eval o).run P w=.ok .skip (jI w q (.map pW jW))→∃w',(execOp a.eval o).run P w=.ok .skip w'∧kf P C0 w0 C a.tmps d env ⟨.undef,E0,En,h'⟩ undef w':=by
   intro zU pW jW vt bq bm
   obtain rfl:=zM bq
   have hu:=Dr (w:=w) (r:=q) (x:=.map pW jW) aY (by simp)
   exact⟨_,bm,C,ω,ay.le_refl C,m.dx hu oe _ (fun _ _ _ _ _ h=>h) ⟨pW,jW,Fp aY,vt⟩,e.di hu oe,.undef,by simp⟩
  rcases hv with⟨i,u,hf,bq⟩|⟨hf,bq⟩
  ·obtain⟨me,_,k1,k2,k3,k4,k5,k6⟩:=Fs pV hH gN g2 hf
   have uk:=Ft (w:=w) pV k5
   simp only[Nat.sub_zero]at k1 k2
   have SN:bQ[i]?=I me:=by simpa using k2
   have hlen:i<bQ.size:=(Ha.1 SN).1
   refine done (pG es i v) (bQ.modify i fun e=>{ e with key:=a.eval y,val:=a.eval z }) clock ?_ bq ?_
   ·have:(bQ.modify i fun e=>{ e with key:=a.eval y,val:=a.eval z }).toList=bQ.toList.set i { me with key:=a.eval y,val:=a.eval z }:=by
     apply Tb
     intro j
     rw[Ga,Array.getElem?_modify,List.getElem?_set]
     by_cases vo:i=j
     ·subst vo
      have hgi:=(Ha.1 SN).2
      simp[hlen,hgi]
     ·simp[vo]
    rw[this]
    refine qy.ia (k:=kv) g2 hvr (fun k' eC=>?_)
    rw[k1]at eC
    cases eC
    exact gN
   ·have fJ:=wZ (P:=P) (x:=.map (bQ.modify i fun e=>{ e with key:=a.eval y,val:=a.eval z }) clock) g1 (by simp)
    have Fv:∀w:World,(Instr.keyThatStays (((bQ[i]?).map (·.key)).getD (a.eval y)) (a.eval y)).run P w=.ok (a.eval y) w:=by
     intro w
     simp[Instr.keyThatStays,SN,k6]
    rcases ho with ho|ho<;>simp only[execOp,ho,Instr.mapUpdate,Sem.run_bind,run_underlying ht,Result.andThen_ok,lY,oY g1 (by simp),Ds hH,uk,Fv,fJ,Sem.run_pure]
  ·have R5:=Fs pV hH gN g2 hf
   have uk:=Ft (w:=w) pV R5
   refine done (es++[(kv,v)]) (bQ.push { key:=a.eval y,val:=a.eval z,born:=clock }) (clock+1) ?_ bq ?_
   ·rw[Array.toList_push]
    exact g2.push gN hvr
   ·have fJ:=wZ (P:=P) (x:=.map (bQ.push { key:=a.eval y,val:=a.eval z,born:=clock }) (clock+1)) g1 (by simp)
    rcases ho with ho|ho<;>simp only[execOp,ho,Instr.mapUpdate,Sem.run_bind,run_underlying ht,Result.andThen_ok,lY,oY g1 (by simp),Ds hH,uk,fJ,Sem.run_pure]
end
section
variable {P:Program}{C C0:ay}{ω:Nat→Option Loc}{w w' w0:World}{hp:j8}{env:Env}{a:Act}{o:Oper}{tmps:Array Value}{d:Loc}
theorem q1d {n sz len cap:Nat}{base:Option Addr}{cs:List Value}(hl:cs.length=n*sz)(h:∀ad,base=I ad→∀j v,cs[j]?=I v→w.cell? (ad.add j)=I v)(hn:base=En→n=0):
  (Builtin.firstCells sz n (.slice base len cap)).run P w=.ok cs.toArray w:=by
 cases base with
 |none=>
  have:cs=[]:=by
   have:=hn rfl
   subst this
   exact List.length_eq_zero_iff.1 (by simpa using hl)
  subst this
  exact run_firstCells_none _ _ _ _ _
 |some ad=>exact run_firstCells_some w _ _ _ _ _ cs hl (h ad rfl)
theorem jet (m:av P C ω w0 C0 hp w)(e:aj C ω w w0.heap.size env a.tmps){c:Call}{t:TypeId}{ts:List TypeId}{el:TypeId}{x y:Operand}{x' y':qh}{sz b q len n:Nat}{vy:qa}{us:List qa}{cs dV:List (qa×Bool)}{h':j8}
  (ho:o.op=.call c) (dB:c.callee=.builtin .copy) (dK:c.args.toList=[x,y]) (dY:c.argTypes.toList=t::ts) (ht:P.underlying t=I (.slice el)) (hn:yg P el=I sz)
  (h1:zq x=I x') (h2:zq y=I y') (e1:zc env x'=I (.ms b q len)) (e2:zc env y'=I vy) (kP:ym hp b=I cs) (cy:yY sz len vy=I (n,us)) (bU:yh cs q us=I dV) (R9:us.length=n*sz) (bq:yl hp b (.cells dV)=I h'):
  ∃u w',(execOp a.eval o).run P w=.ok (.value u) w'∧kf P C0 w0 C a.tmps d env ⟨.int .i64 n,E0,En,h'⟩ u w':=by
 obtain⟨r,cap,hr,hle,hq⟩:=(zt e.bV h1 e1).ey
 have ry:=zt e.bV h2 e2
 unfold yh at bU
 cases hb:(Nat.ble (q+us.length) cs.length&&us.all ze)with
 |false=>simp[hb]at bU
 |true=>
  simp only[hb,cT,I.injEq]at bU
  simp only[E4]at hb
  subst bU
  -- the source
  obtain⟨news,base,sl,sc,hy,cH,hcells,SP,pO⟩:∃news base sl sc,a.eval y=.slice base sl sc∧aM C us news∧(∀ad,base=I ad→∀j v,news[j]?=I v→w.cell? (ad.add j)=I v)∧Nat.min sl len=n∧(base=En→n=0):=by
   unfold yY at cy
   split at cy
   ·rename_i nn sy ys
    cases hk:(Gz sz sy||ys.isEmpty)with
    |false=>simp[hk]at cy
    |true=>
     simp only[hk,cT,I.injEq,Prod.mk.injEq]at cy
     obtain⟨rfl,rfl⟩:=cy
     generalize a.eval y=vv at ry
     cases ry with
     |iI=>exact⟨[],En,0,0,rfl,by simpa using qp.nil,by simp,by simp[Nat.min_def],by simp⟩
     |iJ _ ad _=>exact⟨[],I ad,0,0,rfl,by simpa using qp.nil,by simp,by simp,by simp⟩
     |list _ _ r' o' jV hl cM=>
      have hc:bZ C r' ((ys.take len).flatMap qa.flat) o':=aX.cells (aX.take len cM)
      obtain⟨vs,k1,k2⟩:=hc.vals
      refine⟨vs,I ⟨r',o',En⟩,ys.length,jV,rfl,k1,?_,rfl,by simp⟩
      intro ad had j v hj
      cases had
      rw[add_lit]
      exact m.know _ _ _ (k2 j v hj)
   ·cases cy
  have cI:=zG cH (by simpa using hb.2)
  obtain⟨vs,te,hg,cf,m',e'⟩:=q4h m e (vp kP) hr cH cI (Sr hb.1)
  obtain rfl:=zM bq
  have hfc:=q1d (P:=P) (w:=w) (n:=n) (sz:=sz) (len:=sl) (cap:=sc) (base:=base) (cs:=news) (by rw[cH.length,R9]) hcells pO
  have Fw:=run_storeCells_at (P:=P) r q te news 0 vs w hg (by simpa using cf) cI
  simp only[Nat.add_zero]at Fw
  have bm:(Builtin.copy_ c.argTypes o.type (c.args.map a.eval)).run P w=.ok (goInt n) (w.setRow r (vs.toList.take q++news++vs.toList.drop (q+news.length)).toArray):=by
   have ha:c.args.map a.eval=#[a.eval x,a.eval y]:=by
    apply Gc;simp[dK]
   have hat:c.argTypes[0]?=I t:=by rw[←Ga,dY];rfl
   rw[ha]
   simp only[Builtin.copy_,hat,Gb,H6,If,Sem.run_bind,run_underlying ht,Result.andThen_ok,hq,hy,Builtin.lenOf,Sem.run_pure,SP,iL hn,hfc,Fw]
  refine⟨goInt n,_,?_,C,ω,ay.le_refl C,m',e',?_,by simp⟩
  ·have ha:Array.map a.eval c.args=#[a.eval x,a.eval y]:=by
    apply Gc;simp[dK]
   rw[ha]at bm
   simp[execOp,ho,resolve,dB,ha,invoke,builtin,bm]
  ·exact .int _ _
theorem qy.erase:∀ {es:List (qa×qa)} {ms:List MapEntry} (j:Nat),qy C es ms→qy C (es.eraseIdx j) (ms.eraseIdx j)
 |_,_,j,.nil=>by simpa using qy.nil
 |_,_,0,.cons k' v' es m' ms h1 h2 h3=>by simpa using h3
 |_,_,j+1,.cons k' v' es m' ms h1 h2 h3=>by simpa using .cons _ _ _ _ _ h1 h2 (qy.erase j h3)
theorem q8s (m:av P C ω w0 C0 hp w)(e:aj C ω w w0.heap.size env a.tmps){c:Call}{t kt el:TypeId}{ts:List TypeId}{x y:Operand}{x' y':qh}{kd:Kd}{kv:qa}{b:Nat}{es:List (qa×qa)}{h':j8}{r:Option (Nat×qa)}
  (ho:o.op=.call c) (dB:c.callee=.builtin .delete) (dK:c.args.toList=[x,y]) (dY:c.argTypes.toList=t::ts) (ht:P.underlying t=I (.map kt el)) (hH:jP P kt=I kd)
  (h1:zq x=I x') (h2:zq y=I y') (e1:zc env x'=I (.map b)) (e2:zc env y'=I kv) (hb:hp[b]?=I (.map es))
  (hf:yx kd kv es 0=I r) (bq:yl hp b (.map (q3g es r))=I h'):
  ∃u w',(execOp a.eval o).run P w=.ok (.value u) w'∧kf P C0 w0 C a.tmps d env ⟨.aB [],E0,En,h'⟩ u w':=by
 have gN:=zt e.bV h2 e2
 have uj:=zt e.bV h1 e1
 obtain⟨td,pV⟩:=SK hH
 have ha:Array.map a.eval c.args=#[a.eval x,a.eval y]:=by
  apply Gc;simp[dK]
 have hat:c.argTypes[0]?=I t:=by rw[←Ga,dY];rfl
 generalize lY:a.eval x=mx at uj
 cases uj with
 |map _ q oe=>
  obtain⟨bQ,clock,g1,g2⟩:=m.box b _ q hb oe
  have aY:=(m.lt b q oe).1
  have done:∀(zU:List (qa×qa)) (pW:Array MapEntry),qy C zU pW.toList→yl hp b (.map zU)=I h' →
    (Builtin.delete_ c.argTypes o.type #[.map (I q),a.eval y]).run P w=.ok (.tuple #[]) (jI w q (.map pW clock))→∃u w',(execOp a.eval o).run P w=.ok (.value u) w'∧kf P C0 w0 C a.tmps d env ⟨.aB [],E0,En,h'⟩ u w':=by
   intro zU pW vt bq bm
   obtain rfl:=zM bq
   have hu:=Dr (w:=w) (r:=q) (x:=.map pW clock) aY (by simp)
   refine⟨.tuple #[],_,?_,C,ω,ay.le_refl C,m.dx hu oe _ (fun _ _ _ _ _ h=>h) ⟨pW,clock,Fp aY,vt⟩,e.di hu oe,.aB _ _ .nil,by simp⟩
   simp[execOp,ho,resolve,dB,ha,lY,invoke,builtin,bm]
  have hfn:=Fs pV hH gN g2 hf
  cases r with
  |none=>
   have uk:=Ft (w:=w) pV hfn
   refine done es bQ g2 bq ?_
   have fJ:=wZ (P:=P) (x:=.map bQ clock) g1 (by simp)
   simp only[Builtin.delete_,hat,Gb,H6,If,Sem.run_bind,run_underlying ht,Result.andThen_ok,oY g1 (by simp),Ds hH,uk,fJ,Sem.run_pure]
  |some jv=>
   obtain⟨j,v⟩:=jv
   obtain⟨me,_,k1,k2,k3,k4,k5,k6⟩:=hfn
   have uk:=Ft (w:=w) pV k5
   refine done (es.eraseIdx j) (bQ.eraseIdxIfInBounds j) ?_ bq ?_
   ·have:(bQ.eraseIdxIfInBounds j).toList=bQ.toList.eraseIdx j:=by simp
    rw[this];exact qy.erase j g2
   ·have fJ:=wZ (P:=P) (x:=.map (bQ.eraseIdxIfInBounds j) clock) g1 (by simp)
    simp only[Builtin.delete_,hat,Gb,H6,If,Sem.run_bind,run_underlying ht,Result.andThen_ok,oY g1 (by simp),Ds hH,uk,fJ,Sem.run_pure]
end
section
variable {P:Program}{p:qt}{xc:XC}{C C0:ay}{ω:Nat→Option Loc}{w w0:World}{hp:j8}{env:Env}{a:Act}{o:Oper}{d:Loc}{h:qb}{md:jc}{r h0:Nat}{dst:Option Nat}{al:Option (List Nat)}{cr:qw}{res:qq}
def dW (P:Program)(C C0:ay)(w0:World)(a:Act)(d:Loc)(env:Env)(o:Oper)(w:World)(res:qq):Prop:=
 (∃v w',(execOp a.eval o).run P w=.ok (.value v) w'∧kf P C0 w0 C a.tmps d env res v w') ∨
 (∃w',(execOp a.eval o).run P w=.ok .skip w'∧kf P C0 w0 C a.tmps d env res undef w') ∨
 (∃f args,(execOp a.eval o).run P w=.ok (.enter f args) w∧CallsIn Fence.wide 0 P f args w fun e w'=>∃v,e=.returned v∧kf P C0 w0 C a.tmps d env res v w') ∨
 (∃l f tmps assign body,(execOp a.eval o).run P w=.ok (.round l f tmps assign body) w∧RoundIn Fence.wide 0 P l f tmps assign body w fun e w'=>∃v,e=.returned v∧kf P C0 w0 C a.tmps d env res v w')
theorem yc (m:av P C ω w0 C0 hp w)(e:aj C ω w w0.heap.size env a.tmps){x:qa}(hv:Val P C a o w x):dW P C C0 w0 a d env o w ⟨x,E0,En,hp⟩:=by
 obtain⟨v,h1,h2⟩:=hv
 exact .inl ⟨v,w,h1,q4g m e h2⟩
theorem zx {x:qa}(hs:val hp x=I res):res=⟨x,E0,En,hp⟩:=by simpa[val]using hs.symm
theorem ul {x:Option qa}(hs:fW hp x=I res):∃v,x=I v∧res=⟨v,E0,En,hp⟩:=by
 cases x with
 |none=>simp[fW]at hs
 |some v=>exact⟨v,rfl,by simpa[fW]using hs.symm⟩
theorem Mp (m:av P C ω w0 C0 hp w)(e:aj C ω w w0.heap.size env a.tmps){x:Operand}(ho:o.op=.move x∨o.op=.assign x){y:qh}(hc:zq x=I y)(hs:zh env hp (.move y)=I res):dW P C C0 w0 a d env o w res:=by
 simp only[zh]at hs
 obtain⟨v,hv,rfl⟩:=ul hs
 exact yc m e (jea e.bV ho hc hv)
theorem q3b (m:av P C ω w0 C0 hp w)(e:aj C ω w w0.heap.size env a.tmps){s:Nat}(ho:o.op=.move (.tmp s)∨o.op=.assign (.tmp s))(hs:zh env hp (.take s)=I res):dW P C C0 w0 a d env o w res:=by
 simp only[zh]at hs
 split at hs
 ·rename_i v ow hl
  cases hs
  exact .inl (jed m e ho hl)
 ·cases hs
theorem ji9 (m:av P C ω w0 C0 hp w)(e:aj C ω w w0.heap.size env a.tmps){x:Operand}(ho:o.op=.move x)(hc:cx P h md r dst (.move x)=I cr)(hs:j9 p xc h0 al env hp cr=I res):dW P C C0 w0 a d env o w res:=by
 simp only[cx]at hc
 split at hc
 ·rename_i s ht
  cases hc
  unfold q6z at ht
  split at ht
  ·split at ht
   ·cases ht;exact q3b m e (.inl ho) hs
   ·cases ht
  ·cases ht
 ·obtain⟨y,hy,rfl⟩:=Ef.1 hc
  exact Mp m e (.inl ho) hy hs
theorem jam (m:av P C ω w0 C0 hp w)(e:aj C ω w w0.heap.size env a.tmps){x:Operand}(ho:o.op=.assign x)(hc:cx P h md r dst (.assign x)=I cr)(hs:j9 p xc h0 al env hp cr=I res):dW P C C0 w0 a d env o w res:=by
 cases x with
 |tmp s=>simp only[cx]at hc;cases hc;exact q3b m e (.inr ho) hs
 |const v=>simp only[cx]at hc;obtain⟨y,hy,rfl⟩:=Ef.1 hc;exact Mp m e (.inr ho) hy hs
 |func v=>simp only[cx]at hc;obtain⟨y,hy,rfl⟩:=Ef.1 hc;exact Mp m e (.inr ho) hy hs
 |global v=>simp only[cx]at hc;obtain⟨y,hy,rfl⟩:=Ef.1 hc;exact Mp m e (.inr ho) hy hs
theorem jgi (m:av P C ω w0 C0 hp w)(e:aj C ω w w0.heap.size env a.tmps){c x y:Operand}(ho:o.op=.pick c x y)(hc:cx P h md r dst (.pick c x y)=I cr)(hs:j9 p xc h0 al env hp cr=I res):dW P C C0 w0 a d env o w res:=by
 simp only[cx]at hc
 split at hc
 ·rename_i c' x' y' h1 h2 h3
  cases hc
  simp only[j9,zh]at hs
  split at hs
  ·rename_i b e1
   split at hs
   ·rename_i u v e2 e3
    obtain rfl:=zx hs
    exact yc m e (jgh e.bV ho h1 h2 h3 e1 e2 e3)
   ·cases hs
  ·cases hs
 ·cases hc
theorem q26 (m:av P C ω w0 C0 hp w)(e:aj C ω w w0.heap.size env a.tmps){x:Operand}(ho:o.op=.nilCheck x)(hc:cx P h md r dst (.nilCheck x)=I cr)(hs:j9 p xc h0 al env hp cr=I res):dW P C C0 w0 a d env o w res:=by
 simp only[cx]at hc
 obtain⟨y,hy,rfl⟩:=Ef.1 hc
 simp only[j9,zh]at hs
 split at hs
 ·rename_i b q hv;obtain rfl:=zx hs;exact yc m e (qsp e.bV ho hy hv (.inl ⟨_,_,rfl⟩))
 ·rename_i z hv;obtain rfl:=zx hs;exact yc m e (qsp e.bV ho hy hv (.inr ⟨_,rfl⟩))
 ·rename_i f u v hv
  obtain rfl:=zx hs
  have hr:=zt e.bV hy hv
  refine yc m e ⟨a.eval x,?_,hr⟩
  generalize hx:a.eval x=ev at hr
  cases hr with
  |fn f f' u v as bs hf ha hb=>
   simp only[eU]at hf
   subst hf
   simp[execOp,ho,hx]
 ·cases hs
theorem jtf (m:av P C ω w0 C0 hp w)(e:aj C ω w w0.heap.size env a.tmps){op:UnOp}{t:TypeId}{x:Operand}(ho:o.op=.unOp op t x)(hc:cx P h md r dst (.unOp op t x)=I cr)(hs:j9 p xc h0 al env hp cr=I res):dW P C C0 w0 a d env o w res:=by
 simp only[cx]at hc
 obtain⟨y,hy,rfl⟩:=Ef.1 hc
 simp only[j9,zh]at hs
 split at hs
 ·rename_i v hv
  obtain⟨u,hu,rfl⟩:=ul hs
  exact yc m e (jod e.bV ho hy hv hu)
 ·cases hs
theorem je8 (m:av P C ω w0 C0 hp w)(e:aj C ω w w0.heap.size env a.tmps){s t:TypeId}{x:Operand}(ho:o.op=.convert s t x)(hc:cx P h md r dst (.convert s t x)=I cr)(hs:j9 p xc h0 al env hp cr=I res):dW P C C0 w0 a d env o w res:=by
 simp only[cx]at hc
 split at hc
 ·rename_i k0 k u1 u2
  obtain⟨y,hy,rfl⟩:=Ef.1 hc
  simp only[j9,zh]at hs
  split at hs
  ·rename_i k1 n hv
   obtain rfl:=zx hs
   exact yc m e (jjm e.bV ho u1 u2 hy hv)
  ·cases hs
 ·rename_i u1 u2
  obtain⟨y,hy,rfl⟩:=Ef.1 hc
  simp only[j9,zh]at hs
  split at hs
  ·rename_i l hv
   obtain rfl:=zx hs
   exact yc m e (q5x e.bV ho u1 u2 hy hv ⟨_,rfl⟩)
  ·rename_i k1 n hv
   obtain rfl:=zx hs
   exact yc m e (q2n e.bV ho u1 u2 hy hv)
  ·cases hs
 ·rename_i k0 u1 u2
  obtain⟨y,hy,rfl⟩:=Ef.1 hc
  simp only[j9,zh]at hs
  split at hs
  ·rename_i l hv
   obtain rfl:=zx hs
   exact yc m e (q3u e.bV ho u1 u2 hy hv ⟨_,rfl⟩)
  ·rename_i k1 n hv
   obtain rfl:=zx hs
   exact yc m e (q6d e.bV ho u1 u2 hy hv)
  ·cases hs
 ·cases hc
theorem q6y {ag:Bool}{n:Nat}{y:qh}(hs:zh env hp (.eP ag n y)=I res):gW h0 al env hp (.load ag n y)=I res:=by
 simp only[zh]at hs
 simp only[gW]
 split at hs
 ·rename_i v hv
  rw[hv];exact hs
 ·cases hs
theorem q0i {g:Nat}:∀ {l:List (String×List Int)} {cs:List Int},EQ P g l=I cs→∃n,(n,cs)∈l∧P.globalNamed n=I g
 | [],_,h=>by simp[EQ]at h
 |(n,ds)::l,cs,h=>by
  simp only[EQ]at h
  split at h
  ·rename_i hn
   cases h
   exact⟨n,S6 ..,by simpa using hn⟩
  ·obtain⟨n',h1,h2⟩:=q0i h
   exact⟨n',Sw _ h1,h2⟩
theorem jcw {ns:List Int}:aM C (ns.map (qa.int .i64)) (ns.map (Value.int .i64)):=by
 induction ns with
 |nil=>exact .nil
 |cons n ns ih=>exact .cons _ _ _ _ (.int _ _) ih
theorem jbm (m:av P C ω w0 C0 hp w)(e:aj C ω w w0.heap.size env a.tmps){t:TypeId}{g:Nat}(ho:o.op=.load t (.global g))(hc:cx P h md r dst (.load t (.global g))=I cr)(hs:j9 p xc h0 al env hp cr=I res):dW P C C0 w0 a d env o w res:=by
 have hc:LZ P t g=I cr:=hc
 unfold LZ at hc
 split at hc
 ·rename_i cs n hf hg hn
  split at hc
  ·rename_i hl
   cases hc
   have hl:cs.length=n:=by simpa using hl
   simp only[j9,zh,zc]at hs
   obtain⟨u,hu,rfl⟩:=ul hs
   cases hu
   obtain⟨nm,cS,hnm⟩:=q0i hf
   have ht:=(m.tabs g (.inr (.inr ⟨_,cS,hnm⟩))).2.2.2 _ cS hnm
   have dE:∀j v,(cs.map (Value.int .i64))[j]?=I v→w.cell? ⟨g,0+j,En⟩=I v:=by
    intro j v hj
    rw[N1,Ef]at hj
    obtain⟨i,hi,rfl⟩:=hj
    rw[Ta]
    exact ht j i hi
   have Fx:=Fe (P:=P) (w:=w) hg hn (vs:=cs.map (Value.int .i64)) (by simpa using hl) dE
   refine yc m e ⟨.agg ⟨cs.map (Value.int .i64)⟩,?_,.agg _ _ jcw⟩
   have eg:a.eval (.global g)=.pointer (I ⟨g,0,En⟩):=rfl
   simp[execOp,ho,Instr.loadAt,eg,Instr.sureAddr,Fx]
  ·cases hc
 ·cases hc
theorem jdr (m:av P C ω w0 C0 hp w)(e:aj C ω w w0.heap.size env a.tmps){t:TypeId}{x:Operand}(ho:o.op=.load t x)(hc:cx P h md r dst (.load t x)=I cr)(hs:j9 p xc h0 al env hp cr=I res):dW P C C0 w0 a d env o w res:=by
 have key:∀ {ag:Bool} {n:Nat} {y:qh},fc P t=I ag→yg P t=I n→(ag=E0→n=1)→zq x=I y→gW h0 al env hp (.load ag n y)=I res→dW P C C0 w0 a d env o w res:=by
  intro ag n y hg hn Fg hy hs
  simp only[gW]at hs
  split at hs
  ·rename_i b q hv
   cases hk:yv h0 al b with
   |false=>simp[hk]at hs
   |true=>
    simp only[hk,cT]at hs
    split at hs
    ·rename_i cs hcs
     split at hs
     ·rename_i us gy
      cases ag with
      |true=>
       simp only[cT]at hs
       obtain rfl:=zx hs
       exact yc m e (Sp m e.bV ho hg hn Fg hy hv (.inl ⟨b,q,cs,us,rfl,hcs,gy,.inl ⟨rfl,rfl⟩⟩))
      |false=>
       simp only[cond_false]at hs
       split at hs
       ·obtain rfl:=zx hs
        exact yc m e (Sp m e.bV ho hg hn Fg hy hv (.inl ⟨b,q,cs,_,rfl,hcs,gy,.inr ⟨rfl,rfl⟩⟩))
       ·cases hs
     ·cases hs
    ·cases hs
  ·rename_i z hv
   cases hk:(Bool.xor ag z.isAgg||!(Gz z.flat.length n))with
   |true=>simp[hk]at hs
   |false=>
    simp only[hk,cond_false]at hs
    obtain rfl:=zx hs
    simp only[Bool.or_eq_false_iff,Bool.not_eq_false']at hk
    exact yc m e (Sp m e.bV ho hg hn Fg hy hv (.inr ⟨rfl,hk.1,E1 hk.2⟩))
  ·rename_i b bz q hv
   cases hk:tW h0 al b with
   |false=>simp[hk]at hs
   |true=>
    simp only[hk,cT]at hs
    split at hs
    ·rename_i sz df xs gd
     cases cY:(Gz bz df&&Nat.ble (q+n) (xs.flatMap qa.flat).length)with
     |false=>rw[cY]at hs;cases hs
     |true=>
      rw[cY]at hs
      simp only[cT]at hs
      simp only[E4]at cY
      obtain rfl:=E1 cY.1
      have hl:=Sr cY.2
      cases ag with
      |true=>
       simp only[cT]at hs
       obtain rfl:=zx hs
       exact yc m e (q0v m e.bV ho hg hn hy hv gd hl (.inl ⟨rfl,rfl⟩))
      |false=>
       simp only[cond_false]at hs
       split at hs
       ·rename_i z hz
        obtain rfl:=zx hs
        exact yc m e (q0v m e.bV ho hg hn hy hv gd hl (.inr ⟨rfl,hz⟩))
       ·cases hs
    ·cases hs
  ·cases hs
 by_cases hx:∃g,x=.global g
 ·obtain⟨g,rfl⟩:=hx
  exact jbm m e ho hc hs
 have hc:(match fc P t,yg P t,zq x with
  |some E0,I 1,I x=>if(dst.map (h.takes.contains ·)).getD E0 then I (qw.b8 ((dst.bind fun d=>h.bD.find? fun y=>y.1 == d).map (·.2)) x)else I (bif (dst.map (h.vl.contains ·)).getD E0 then .eP E0 1 x else .load E0 1 x)
  |some E6,I n,I x=>I (bif (dst.map (h.vl.contains ·)).getD E0 then .eP E6 n x else .load E6 n x)
  |_,_,_=>En)=I cr:=by
  cases x with
  |global g=>exact absurd ⟨g,rfl⟩ hx
  |_=>exact hc
 split at hc
 ·rename_i y hg hn hy
  split at hc
  ·cases hc
   simp only[j9,zj]at hs
   split at hs
   ·rename_i b q hv
    generalize (yv h0 al b&&tX _ q)=kk at hs
    cases kk with
    |false=>simp at hs
    |true=>
     simp only[cT]at hs
     split at hs
     ·rename_i cs hcs
      split at hs
      ·rename_i v ow hq
       split at hs
       ·rename_i h' bq
        cases hs
        exact .inl (q2b m e ho hg hy hv hcs hq bq)
       ·cases hs
      ·cases hs
     ·cases hs
   ·cases hs
  ·cases hc
   generalize (dst.map (h.vl.contains ·)).getD E0=bb at hs
   cases bb with
   |false=>exact key hg hn (fun _=>rfl) hy hs
   |true=>exact key hg hn (fun _=>rfl) hy (q6y hs)
 ·rename_i n y hg hn hy
  cases hc
  generalize (dst.map (h.vl.contains ·)).getD E0=bb at hs
  cases bb with
  |false=>exact key hg hn (by simp) hy hs
  |true=>exact key hg hn (by simp) hy (q6y hs)
 ·cases hc
theorem jbo (m:av P C ω w0 C0 hp w)(e:aj C ω w w0.heap.size env a.tmps){t:TypeId}{x y:Operand}(ho:o.op=.store t x y)(mK:cr.gJ=En)(hc:cx P h md r dst (.store t x y)=I cr)(hs:j9 p xc h0 al env hp cr=I res):dW P C C0 w0 a d env o w res:=by
 simp only[cx]at hc
 split at hc
 ·rename_i n x' y' hn h1 h2
  cases ly:L0 h x' with
  |some s=>rw[ly]at hc;simp only[I.injEq]at hc;subst hc;simp[qw.gJ]at mK
  |none=>
  rw[ly]at hc
  simp only[I.injEq]at hc
  subst hc
  simp only[j9,zj]at hs
  split at hs
  ·rename_i b q v e1 e2
   cases hk:yv h0 al b with
   |false=>simp[hk]at hs
   |true=>
    simp only[hk,cT]at hs
    split at hs
    ·rename_i cs hcs
     split at hs
     ·rename_i s cB
      cases hb:(Gz n 1&&v.cu&&Nat.blt q cs.length)with
      |false=>simp[hb]at hs
      |true=>
       simp only[hb,cT]at hs
       simp only[E4]at hb
       obtain⟨⟨kN,lz⟩,Fy⟩:=hb
       obtain rfl:=E1 kN
       split at hs
       ·rename_i h' bq
        cases hs
        exact .inr (.inl (q2e m e ho hn h1 h2 e1 e2 hcs lz (Tm.mp Fy) cB bq))
       ·cases hs
     ·cases hb:Gz v.flat.length n with
      |false=>simp[hb]at hs
      |true=>
       simp only[hb,cT]at hs
       split at hs
       ·rename_i dV bU
        split at hs
        ·rename_i h' bq
         obtain rfl:=zx hs
         exact .inr (.inl (jbr m e ho hn h1 h2 e1 e2 hcs (E1 hb) bU bq))
        ·cases hs
       ·cases hs
    ·cases hs
  ·cases hs
 ·cases hc
theorem jdh {P:Program}{t:TypeId}{e:TypeId}(h:RT P t=I e):∃sz,ek P t=I [.bO,.list E6 sz []]:=by
 unfold RT at h
 split at h
 ·split at h
  ·split at h
   ·split at h
    ·rename_i sz h1 h2
     exact⟨_,h2⟩
    ·cases h
   ·cases h
  ·cases h
 ·cases h
theorem jca (m:av P C ω w0 C0 hp w)(e:aj C ω w w0.heap.size env a.tmps){t:TypeId}(ho:o.op=.alloc t)(hc:cx P h md r dst (.alloc t)=I cr)(hs:j9 p xc h0 al env hp cr=I res):dW P C C0 w0 a d env o w res:=by
 simp only[cx]at hc
 split at hc
 ·rename_i e' he
  cases hc
  obtain⟨sz,hz⟩:=jdh he
  simp only[j9,zj]at hs
  split at hs
  ·rename_i h' hn
   obtain rfl:=zx hs
   exact .inl (jm8 m e ho hz hn)
  ·cases hs
 generalize (dst.map (h.vl.contains ·)).getD E0=bb at hc
 cases bb with
 |true=>
  simp only[cT]at hc
  split at hc
  ·rename_i z hz
   cases hb:z.all ze with
   |false=>rw[hb]at hc;cases hc
   |true=>
    rw[hb]at hc
    simp only[cT,I.injEq]at hc
    subst hc
    simp only[j9,zh,I.injEq]at hs
    subst hs
    exact .inl (jad m e ho hz)
  ·cases hc
 |false=>
 simp only[cond_false]at hc
 obtain⟨z,hz,rfl⟩:=Ef.1 hc
 simp only[j9,zj]at hs
 cases hb:z.all ze with
 |false=>simp[hb]at hs
 |true=>
  simp only[hb,cT]at hs
  split at hs
  ·rename_i h' hn
   obtain rfl:=zx hs
   exact .inl (jaz m e ho hz (by simpa using hb) hn)
  ·cases hs
theorem jm3 (m:av P C ω w0 C0 hp w)(e:aj C ω w w0.heap.size env a.tmps){t:TypeId}{x:Operand}(ho:o.op=.box t x)(hc:cx P h md r dst (.box t x)=I cr)(hs:j9 p xc h0 al env hp cr=I res):dW P C C0 w0 a d env o w res:=by
 simp only[cx]at hc
 split at hc
 ·rename_i n x' hn h1
  cases hc
  generalize (dst.map (h.vl.contains ·)).getD E0=bb at hs
  cases bb with
  |true=>
   simp only[cT,j9,zh]at hs
   split at hs
   ·rename_i v hv
    cases hb:(Gz v.flat.length n&&v.flat.all ze)with
    |false=>simp[hb]at hs
    |true=>
     simp only[hb,cT]at hs
     simp only[E4]at hb
     obtain rfl:=zx hs
     exact .inl (jfg m e ho h1 hv hb.2)
   ·cases hs
  |false=>
   simp only[cond_false]at hs
   simp only[j9,zj]at hs
   split at hs
   ·rename_i v hv
    cases hb:(Gz v.flat.length n&&v.flat.all ze)with
    |false=>simp[hb]at hs
    |true=>
     simp only[hb,cT]at hs
     simp only[E4]at hb
     split at hs
     ·rename_i h' jX
      obtain rfl:=zx hs
      exact .inl (jm4 m e ho h1 hv hb.2 jX)
     ·cases hs
   ·cases hs
 ·cases hc
theorem q5u (m:av P C ω w0 C0 hp w)(e:aj C ω w w0.heap.size env a.tmps){i:Nat}{x:Operand}(ho:o.op=.extract x i)(hc:cx P h md r dst (.extract x i)=I cr)(hs:j9 p xc h0 al env hp cr=I res):dW P C C0 w0 a d env o w res:=by
 simp only[cx]at hc
 obtain⟨y,hy,rfl⟩:=Ef.1 hc
 simp only[j9,zh]at hs
 split at hs
 ·rename_i vs hv
  obtain⟨u,hu,rfl⟩:=ul hs
  exact yc m e (q5i e.bV ho hy hv hu)
 ·cases hs
theorem q5a (m:av P C ω w0 C0 hp w)(e:aj C ω w w0.heap.size env a.tmps){f:Fn}{xs ys:Array Operand}(ho:o.op=.makeFunc f xs ys)(hc:cx P h md r dst (.makeFunc f xs ys)=I cr)(hs:j9 p xc h0 al env hp cr=I res):dW P C C0 w0 a d env o w res:=by
 simp only[cx]at hc
 split at hc
 ·split at hc
  ·rename_i k fq nF h1 h2
   cases hc
   simp only[j9,zh]at hs
   split at hs
   ·rename_i us vs e1 e2
    obtain rfl:=zx hs
    exact yc m e (q9m e.bV ho h1 h2 e1 e2)
   ·cases hs
  ·cases hc
 ·cases hc
theorem q5h (m:av P C ω w0 C0 hp w)(e:aj C ω w w0.heap.size env a.tmps){t:TypeId}{x:Option Operand}(ho:o.op=.makeMap t x)(hc:cx P h md r dst (.makeMap t x)=I cr)(hs:j9 p xc h0 al env hp cr=I res):dW P C C0 w0 a d env o w res:=by
 cases x with
 |some x=>simp[cx]at hc
 |none=>
  simp only[cx]at hc
  split at hc
  ·cases hc
   simp only[j9,zj]at hs
   split at hs
   ·rename_i h' hn
    obtain rfl:=zx hs
    exact .inl (jbl m e ho hn)
   ·cases hs
  ·cases hc
theorem jbz (m:av P C ω w0 C0 hp w)(e:aj C ω w w0.heap.size env a.tmps){t:TypeId}{x:Operand}(ho:o.op=.range t x)(hc:cx P h md r dst (.range t x)=I cr)(hs:j9 p xc h0 al env hp cr=I res):dW P C C0 w0 a d env o w res:=by
 simp only[cx]at hc
 split at hc
 ·rename_i ht
  obtain⟨y,hy,rfl⟩:=Ef.1 hc
  simp only[j9,zj]at hs
  split at hs
  ·rename_i s hv
   split at hs
   ·rename_i h' hn
    obtain rfl:=zx hs
    exact .inl (q7g m e ho ht hy hv hn)
   ·cases hs
  ·cases hs
 ·cases hc
theorem jhv (m:av P C ω w0 C0 hp w)(e:aj C ω w w0.heap.size env a.tmps){x:Operand}{b:Bool}(ho:o.op=.next x b)(hc:cx P h md r dst (.next x b)=I cr)(hs:j9 p xc h0 al env hp cr=I res):dW P C C0 w0 a d env o w res:=by
 cases b with
 |false=>simp[cx]at hc
 |true=>
  simp only[cx]at hc
  obtain⟨y,hy,rfl⟩:=Ef.1 hc
  simp only[j9,zj]at hs
  split at hs
  ·rename_i b hv
   cases hk:yv h0 al b with
   |false=>simp[hk]at hs
   |true=>
    simp only[hk,cT]at hs
    split at hs
    ·rename_i s pos hb
     obtain⟨k1,k2⟩:=jdg (d:=d) m e ho hy hv hb
     cases hp:Nat.blt pos s.length with
     |true=>
      simp only[hp,cT]at hs
      split at hs
      ·rename_i h' bq
       obtain rfl:=zx hs
       exact .inl (k1 (Tm.mp hp) h' bq)
      ·cases hs
     |false=>
      simp only[hp,cond_false]at hs
      obtain rfl:=zx hs
      exact .inl (k2 (fun h=>by rw[Tm.mpr h]at hp;cases hp))
    ·cases hs
  ·cases hs
theorem q7f (m:av P C ω w0 C0 hp w)(e:aj C ω w w0.heap.size env a.tmps){t:TypeId}{x y:Operand}{ok:Bool}(ho:o.op=.lookup t x y ok)(hc:cx P h md r dst (.lookup t x y ok)=I cr)(hs:j9 p xc h0 al env hp cr=I res):dW P C C0 w0 a d env o w res:=by
 simp only[cx]at hc
 split at hc
 ·rename_i kt el ht
  split at hc
  ·rename_i kd z x' y' hH hz h1 h2
   cases hc
   simp only[j9,gW]at hs
   split at hs
   ·rename_i b kv e1 e2
    cases hk:yv h0 al b with
    |false=>simp[hk]at hs
    |true=>
     simp only[hk,cT]at hs
     split at hs
     ·rename_i es hb
      split at hs
      ·rename_i i v hf
       obtain rfl:=zx hs
       exact yc m e (SL m e ho ht hH hz h1 h2 e1 e2 (.inr ⟨b,es,rfl,hb,hf⟩))
      ·rename_i hf
       obtain rfl:=zx hs
       exact yc m e (SL m e ho ht hH hz h1 h2 e1 e2 (.inr ⟨b,es,rfl,hb,hf⟩))
      ·cases hs
     ·cases hs
   ·rename_i kv e1 e2
    obtain rfl:=zx hs
    exact yc m e (SL m e ho ht hH hz h1 h2 e1 e2 (.inl ⟨rfl,rfl⟩))
   ·cases hs
  ·cases hc
 ·cases hc
theorem qp1 (m:av P C ω w0 C0 hp w)(e:aj C ω w w0.heap.size env a.tmps){t:TypeId}{x y z:Operand}(ho:o.op=.mapUpdate t x y z∨o.op=.insert t x y z)(hc:cx P h md r dst (.mapUpdate t x y z)=I cr)(hs:j9 p xc h0 al env hp cr=I res):dW P C C0 w0 a d env o w res:=by
 simp only[cx]at hc
 split at hc
 ·rename_i kt el ht
  split at hc
  ·rename_i kd x' y' z' hH h1 h2 h3
   cases hc
   simp only[j9,zj]at hs
   split at hs
   ·rename_i b kv v e1 e2 e3
    cases hk:yv h0 al b with
    |false=>simp[hk]at hs
    |true=>
     simp only[hk,cT]at hs
     split at hs
     ·rename_i es hb
      split at hs
      ·rename_i i u hf
       split at hs
       ·rename_i h' bq
        obtain rfl:=zx hs
        exact .inr (.inl (qpy m e ho ht hH h1 h2 h3 e1 e2 e3 hb (.inl ⟨i,u,hf,bq⟩)))
       ·cases hs
      ·rename_i hf
       cases hl:Nat.ble es.length 1073741824 with
       |false=>simp[hl]at hs
       |true=>
        simp only[hl,cT]at hs
        split at hs
        ·rename_i h' bq
         obtain rfl:=zx hs
         exact .inr (.inl (qpy m e ho ht hH h1 h2 h3 e1 e2 e3 hb (.inr ⟨hf,bq⟩)))
        ·cases hs
      ·cases hs
     ·cases hs
   ·cases hs
  ·cases hc
 ·cases hc
end
section
variable {P:Program}{p:qt}{xc:XC}{C C0:ay}{ω:Nat→Option Loc}{w w0:World}{hp:j8}{env:Env}{a:Act}{o:Oper}{d:Loc}{h:qb}{md:jc}{r h0:Nat}{dst:Option Nat}{al:Option (List Nat)}{cr:qw}{res:qq}
theorem um (w:World){d:Nat}{t:TypeId}{x y:Value}{b:Bool}{u:TypeDesc}(h:(∃e,u=.slice e∧y=.slice En 0 0∧∃q l c,x=.slice q l c∧b=q.isNone)∨(∃e,u=.pointer e∧y=.pointer En∧∃q,x=.pointer q∧b=q.isNone) ∨
  (∃k e,u=.map k e∧y=.map En∧∃q,x=.map q∧b=q.isNone)∨(∃k e v,u=.func k e v∧y=.nilFunc∧((x=.nilFunc∧b=E6)∨∃f i j,x=.func f i j∧b=E0))) (ht:P.underlying t=I u):
  (Op.equalIn (d+1) t x y).run P w=.ok b w:=by
 rcases h with⟨e,rfl,rfl,q,l,c,rfl,rfl⟩|⟨e,rfl,rfl,q,rfl,rfl⟩|⟨k,e,rfl,rfl,q,rfl,rfl⟩|⟨k,e,v,rfl,rfl,⟨rfl,rfl⟩|⟨f,i,j,rfl,rfl⟩⟩
 ·cases q<;>simp[Op.equalIn,run_underlying ht]
 ·cases q<;>simp[Op.equalIn,run_underlying ht]
 ·cases q<;>simp[Op.equalIn,run_underlying ht]
 ·simp[Op.equalIn,run_underlying ht]
 ·simp[Op.equalIn,run_underlying ht]
theorem uo (m:av P C ω w0 C0 hp w)(e:aj C ω w w0.heap.size env a.tmps){op:BinOp}{t u:TypeId}{x y:Operand}{neq b:Bool}{c:Value}(ho:o.op=.binOp op t x y u)(hop:op=if neq then .neq else .eql)(hy:a.eval y=c)
  (bA:(∀k n,a.eval x≠.int k n)∧(∀s,a.eval x≠.string s)∧(∀k n,a.eval x≠.float k n)∧(∀k n m,a.eval x≠.complex k n m)) (cL:∀cs,a.eval x≠.agg cs) (Sf:a.eval x≠.nilIface)
  (hq:(Op.equal t (a.eval x) c).run P w=.ok b w) {z:Bool} (hz:z=bif neq then !b else b):dW P C C0 w0 a d env o w ⟨.bool z,E0,En,hp⟩:=by
 subst hz
 exact yc m e (jc3 ho hop hy bA cL Sf hq)
theorem Mq (m:av P C ω w0 C0 hp w)(e:aj C ω w w0.heap.size env a.tmps){op:BinOp}{t u:TypeId}{x y:Operand}{y':qh}{neq:Bool}{k:Nat}{c:Value}(ho:o.op=.binOp op t x y u)(hop:op=if neq then .neq else .eql)(hx:zq x=I y')(hy:y=.const c)
  (hk:(k=0∧(∃el,P.underlying t=I (.slice el))∧c=.slice En 0 0)∨(k=1∧(∃el,P.underlying t=I (.pointer el))∧c=.pointer En)∨(k=2∧(∃k v,P.underlying t=I (.map k v))∧c=.map En)∨(k=3∧(∃a b c,P.underlying t=I (.func a b c))∧c=.nilFunc))
  (hs:j9 p xc h0 al env hp (.eQ k neq y')=I res):dW P C C0 w0 a d env o w res:=by
 have pe:a.eval y=c:=by subst hy;simp[Act.eval]
 rcases hk with⟨rfl,⟨el,ht⟩,rfl⟩|⟨rfl,⟨el,ht⟩,rfl⟩|⟨rfl,⟨k,el,ht⟩,rfl⟩|⟨rfl,⟨k,el,q,ht⟩,rfl⟩
 ·simp only[j9,zh]at hs
  split at hs<;>first|(exfalso;omega)|skip
  ·rename_i n sz xs _ hv
   obtain rfl:=zx hs
   rcases(zt e.bV hx hv).cG with⟨rfl,rfl,h1⟩|⟨h1,r,q,cap,h2,_⟩|⟨h1,_,ad,_,h2⟩
   ·exact uo m e ho hop pe (by simp[h1]) (by simp[h1]) (by simp[h1]) (b:=true) (by rw[h1];exact um w (d:=9999) (by simp) ht) (by cases neq<;>rfl)
   all_goals
    subst h1
    exact uo m e ho hop pe (by simp[h2]) (by simp[h2]) (by simp[h2]) (b:=false) (by rw[h2];exact um w (d:=9999) (by simp) ht) (by cases neq<;>rfl)
  ·rename_i b q n _ hv
   obtain rfl:=zx hs
   have hr:=zt e.bV hx hv
   generalize h2:a.eval x=ev at hr
   cases hr with
   |ms b o len r cap hb hl=>
    exact uo m e ho hop pe (by simp[h2]) (by simp[h2]) (by simp[h2]) (b:=false) (by rw[h2];exact um w (d:=9999) (by simp) ht) (by cases neq<;>rfl)
  ·cases hs
 ·simp only[j9,zh]at hs
  split at hs<;>first|(exfalso;omega)|skip
  ·rename_i _ hv
   obtain rfl:=zx hs
   have hr:=zt e.bV hx hv
   generalize h2:a.eval x=ev at hr
   cases hr
   exact uo m e ho hop pe (by simp[h2]) (by simp[h2]) (by simp[h2]) (b:=true) (by rw[h2];exact um w (d:=9999) (by simp) ht) (by cases neq<;>rfl)
  ·rename_i _ hv
   obtain rfl:=zx hs
   obtain⟨r,hr,h2⟩:=(zt e.bV hx hv).cW
   exact uo m e ho hop pe (by simp[h2]) (by simp[h2]) (by simp[h2]) (b:=false) (by rw[h2];exact um w (d:=9999) (by simp) ht) (by cases neq<;>rfl)
  ·rename_i _ hv
   obtain rfl:=zx hs
   obtain⟨r,q,h2,_⟩:=(zt e.bV hx hv).ew
   exact uo m e ho hop pe (by simp[h2]) (by simp[h2]) (by simp[h2]) (b:=false) (by rw[h2];exact um w (d:=9999) (by simp) ht) (by cases neq<;>rfl)
  ·cases hs
 ·simp only[j9,zh]at hs
  split at hs<;>first|(exfalso;omega)|skip
  ·rename_i _ hv
   obtain rfl:=zx hs
   have hr:=zt e.bV hx hv
   generalize h2:a.eval x=ev at hr
   cases hr
   exact uo m e ho hop pe (by simp[h2]) (by simp[h2]) (by simp[h2]) (b:=true) (by rw[h2];exact um w (d:=9999) (by simp) ht) (by cases neq<;>rfl)
  ·rename_i _ hv
   obtain rfl:=zx hs
   have hr:=zt e.bV hx hv
   generalize h2:a.eval x=ev at hr
   cases hr
   exact uo m e ho hop pe (by simp[h2]) (by simp[h2]) (by simp[h2]) (b:=false) (by rw[h2];exact um w (d:=9999) (by simp) ht) (by cases neq<;>rfl)
  ·cases hs
 ·simp only[j9,zh]at hs
  split at hs<;>first|(exfalso;omega)|skip
  ·rename_i _ hv
   obtain rfl:=zx hs
   have hr:=zt e.bV hx hv
   generalize h2:a.eval x=ev at hr
   cases hr
   exact uo m e ho hop pe (by simp[h2]) (by simp[h2]) (by simp[h2]) (b:=true) (by rw[h2];exact um w (d:=9999) (by simp) ht) (by cases neq<;>rfl)
  ·rename_i _ hv
   obtain rfl:=zx hs
   have hr:=zt e.bV hx hv
   generalize h2:a.eval x=ev at hr
   cases hr
   exact uo m e ho hop pe (by simp[h2]) (by simp[h2]) (by simp[h2]) (b:=false) (by rw[h2];exact um w (d:=9999) (by simp) ht) (by cases neq<;>rfl)
  ·cases hs
theorem SQ (m:av P C ω w0 C0 hp w)(e:aj C ω w w0.heap.size env a.tmps){op:BinOp}{t u:TypeId}{x y:Operand}{x' y':qh}(ho:o.op=.binOp op t x y u)(h1:zq x=I x')(h2:zq y=I y')(hs:j9 p xc h0 al env hp (.bin op x' y')=I res):dW P C C0 w0 a d env o w res:=by
 simp only[j9,zh]at hs
 split at hs
 ·rename_i u v e1 e2
  obtain⟨z,hz,rfl⟩:=ul hs
  exact yc m e (jl7 e.bV ho h1 h2 e1 e2 hz)
 ·cases hs
theorem qv5 (m:av P C ω w0 C0 hp w)(e:aj C ω w w0.heap.size env a.tmps){op:BinOp}{t u:TypeId}{x y:Operand}{neq:Bool}(ho:o.op=.binOp op t x y u)(hop:op=if neq then .neq else .eql)(hc:Df P op neq t x y=I cr)(hs:j9 p xc h0 al env hp cr=I res):dW P C C0 w0 a d env o w res:=by
 have dC:Df P op neq t x y=I cr:=hc
 unfold Df at dC
 have eqs:∀ {ks:List Kd} {x' y':qh},fc P t=I E6→P.eqGuardType P.depth t=E0→tZ P LY t=I ks→zq x=I x'→zq y=I y'→j9 p xc h0 al env hp (.eqs ks neq x' y')=I res→dW P C C0 w0 a d env o w res:=by
  intro ks x' y' cL hg hk h1 h2 hs
  simp only[j9,zh]at hs
  split at hs
  ·rename_i u v e1 e2
   cases hb:(Gz u.length ks.length&&Gz v.length ks.length)with
   |false=>simp[hb]at hs
   |true=>
    simp only[hb,cT]at hs
    simp only[E4]at hb
    split at hs
    ·rename_i b hq
     obtain rfl:=zx hs
     exact yc m e (jnf e.bV ho hop h1 h2 e1 e2 hg hk cL (E1 hb.1) (E1 hb.2) hq)
    ·cases hs
  ·cases hs
 split at dC
 ·split at dC
  ·rename_i h1 h2;cases dC;exact SQ m e ho h1 h2 hs
  ·cases dC
 ·split at dC
  ·rename_i h1 h2;cases dC;exact SQ m e ho h1 h2 hs
  ·cases dC
 ·rename_i ht
  split at dC
  ·rename_i h1 h2
   cases dC
   simp only[j9,zh]at hs
   split at hs
   ·rename_i u v e1 e2
    obtain rfl:=zx hs
    exact yc m e (jmo e.bV ho hop h1 h2 e1 e2 ht)
   ·cases hs
  ·cases dC
 ·rename_i fs ht
  split at dC
  ·rename_i hg
   split at dC
   ·rename_i ks x' y' hk h1 h2;cases dC;exact eqs (by simp[fc,ht]) (by simpa using hg) hk h1 h2 hs
   ·cases dC
  ·cases dC
 ·rename_i fs _ ht
  split at dC
  ·rename_i hg
   split at dC
   ·rename_i ks x' y' hk h1 h2;cases dC;exact eqs (by simp[fc,ht]) (by simpa using hg) hk h1 h2 hs
   ·cases dC
  ·cases dC
 ·rename_i el ht
  split at dC
  ·obtain⟨x',hx,rfl⟩:=Ef.1 dC
   exact Mq m e ho hop hx rfl (.inl ⟨rfl,⟨el,ht⟩,rfl⟩) hs
  ·cases dC
 ·rename_i el ht
  split at dC
  ·obtain⟨x',hx,rfl⟩:=Ef.1 dC
   exact Mq m e ho hop hx rfl (.inr (.inl ⟨rfl,⟨el,ht⟩,rfl⟩)) hs
  ·cases dC
 ·rename_i el _ ht
  split at dC
  ·obtain⟨x',hx,rfl⟩:=Ef.1 dC
   exact Mq m e ho hop hx rfl (.inr (.inr (.inl ⟨rfl,⟨_,_,ht⟩,rfl⟩))) hs
  ·cases dC
 ·rename_i el _ _ ht
  split at dC
  ·obtain⟨x',hx,rfl⟩:=Ef.1 dC
   exact Mq m e ho hop hx rfl (.inr (.inr (.inr ⟨rfl,⟨_,_,_,ht⟩,rfl⟩))) hs
  ·cases dC
 ·cases dC
theorem jln (m:av P C ω w0 C0 hp w)(e:aj C ω w w0.heap.size env a.tmps){op:BinOp}{t u:TypeId}{x y:Operand}(ho:o.op=.binOp op t x y u)(hc:cx P h md r dst (.binOp op t x y u)=I cr)(hs:j9 p xc h0 al env hp cr=I res):dW P C C0 w0 a d env o w res:=by
 simp only[cx]at hc
 unfold RV at hc
 split at hc
 ·exact qv5 (neq:=false) m e ho rfl hc hs
 ·exact qv5 (neq:=true) m e ho rfl hc hs
 ·split at hc
  ·rename_i h1 h2;cases hc;exact SQ m e ho h1 h2 hs
  ·cases hc
end
end Go.Abs
