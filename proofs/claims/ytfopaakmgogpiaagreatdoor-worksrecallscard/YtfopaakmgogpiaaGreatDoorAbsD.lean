/- Slices that are written later. -/
import Derived.Test.YtfopaakmgogpiaaGreatDoorAbsC
set_option linter.unusedVariables false
set_option linter.unusedSimpArgs false
open Option renaming some→I,map_eq_some_iff→Eh,none→Ek,isSome_none→G5
open Bool renaming false→En,and_eq_true→Ev,true→Ga,false_eq_true→Gk
open Nat renaming eq_of_beq_eq_true→Eo,mul_le_mul_right→Gb,le_refl→Gm,beq→Gv,le_trans→G6,mul_le_mul→Hg,add_mul→Hu,le_of_ble_eq_true→Hv,zero_add→Oa,blt_eq→O9
open List renaming getElem?_eq_some_iff→Eu,getElem?_toArray→Ge,getElem?_append_left→Gh,getElem?_eq_getElem→Gi,getElem?_cons_zero→G9,getElem?_cons_succ→Ha,replicate→Hb,getElem?_set_self→Hc,mem_of_getElem?→Hd,nil_append→Hf,getElem?_append_right→Hl,getElem?_map→Hm,size_toArray→Ho,flatMap_cons→Hq,getElem?_take_of_lt→Hr,getElem?_eq_none→Ht,getElem?_set_ne→Hw,mem_cons_of_mem→Hx,mem_of_mem_take→If,getElem?_take→N2,mem_cons_self→N3,length_append→N5,set_set→N7,ext_getElem?→Ob,append_assoc→Od,length_take→Oh,length_set→Ou,mem_append→Ov
open Array renaming getElem?_toList→Gc,ext'→Gf,getElem?_eq_some_iff→G2,getElem?_append_left→G3,getD_eq_getD_getElem?→Hj,range→Hk,size_append→Hn
namespace Go.Abs
section
variable {P:Program}{C C0:aA}{ω:Nat→Option Loc}{w w' w0:World}{hp:za}{env:Env}{a:Act}{o:Oper}{tmps:Array Value}{d:Loc}
theorem qzd (m:av P C ω w0 C0 hp w)(e:ak C ω w w0.heap.size env a.tmps){t el:TypeId}{x y:Operand}{x' y':qp}{n sz b h0 rk:Nat}{z h'}
  (ho:o.op=.makeSlice t x y) (ht:P.underlying t=I (.slice el)) (hn:yf P el=I sz) (hb:nJ P el=I b) (hz:ei P el=I z) (Uj:0<sz) (gL:z.length=sz)
  (h1:zp x=I x') (h2:zp y=I y') (e1:zc env x'=I (.int .i64 (n:Int))) (e2:zc env y'=I (.int .i64 (n:Int))) (hle:n≤1073741824) (iY:b≤4096)
  (cQ:aF h0 hp rk (.cells (cellsOf (Hb n z).flatten))=I h'):
  ∃v w',(execOp a.eval o).run P w=.ok (.value v) w'∧km P C0 w0 C a.tmps d env ⟨.ms (h0+rk) 0 n,En,Ek,h'⟩ v w':=by
 obtain⟨hh,rfl⟩:=lE cQ
 obtain⟨qB,zv,lb,cu,lz⟩:=uL (C:=C) hz
 have mS:zv.cells.toList.length=sz:=by rw[cu.length,gL]
 have jM:((Hk (n*sz)).map (fun i=>zv.cells[i % zv.cells.size]!)).toList=(Hb n zv.cells.toList).flatten:=by
  have:=NQ mS Uj n
  simpa using this
 have r1:=(zq e.bU h1 e1).bJ
 have r2:=(zq e.bU h2 e2).bJ
 have fJ:aK C (Hb n z).flatten ((Hk (n*sz)).map (fun i=>zv.cells[i % zv.cells.size]!)).toList:=by
  rw[jM];exact cu.replicate n
 obtain⟨i,hi,qF⟩:∃i,P.info? el=I i∧i.bytes=b:=by
  unfold nJ at hb
  cases hi:P.info? el with
  |none=>simp[hi]at hb
  |some i=>exact⟨i,rfl,by simpa[hi]using hb⟩
 have kC:i.size=sz:=by
  unfold yf at hn
  rw[hi]at hn
  simpa using hn
 have qG:IntKind.i64.wrap (n:Int)=n:=by
  rw[←Ag];unfold j6
  have:pW .i64 (n:Int)=Ga:=by simp[pW];exact G6 hle (by decide)
  rw[this];rfl
 have Ae:b*n≤281474976710656:=G6 (Hg iY hle) (by decide)
 obtain⟨m',e',cy⟩:=m.aF e hh (.cells ((Hk (n*sz)).map (fun i=>zv.cells[i % zv.cells.size]!)) el) (fun c t fr h=>by cases h;rfl) (.cells (cellsOf (Hb n z).flatten))
  (Ug fJ (by
   intro x h
   rw[List.mem_flatten]at h
   obtain⟨l,q1,q2⟩:=h
   obtain⟨_,rfl⟩:=List.mem_replicate.1 q1
   exact qB x q2) (by intro j v h;rw[Gc]at h;exact h) (by have:=fJ.length;simp at this;simp;omega))
 refine⟨.slice (I ⟨w.heap.size,0,Ek⟩) n n,w.alloc (.cells ((Hk (n*sz)).map (fun i=>zv.cells[i % zv.cells.size]!)) el),?_,_,_,cy,m',e',.ms _ _ _ _ _ (by simp[aA.box]) (Gm _),by simp⟩
 have c1:¬((b:Int)*(n:Int) > 2^48):=by
  have h1:((b*n:Nat):Int)≤281474976710656:=Int.ofNat_le.2 Ae
  rw[Int.natCast_mul]at h1
  have h2:(2:Int)^48=281474976710656:=by decide
  rw[h2];omega
 have c2:¬((n:Int)<0):=by omega
 have hr:Hk 0=#[]:=rfl
 simp only[execOp,ho,Instr.makeSlice,Sem.run_bind,run_underlying ht,r1,r2,asInt,asIntOf,Sem.run_pure,Result.andThen_ok,typeInfo,run_program,hi,qF,qG,c2,c1,decide_false,Bool.or_false,Gk,if_false,Int.lt_irrefl,gt_iff_lt,run_askRoom,Int.toNat_natCast,iX hn,newRow]
 by_cases Ah:n=0
 ·subst Ah
  simp[hr]
 ·have bu:¬(n*sz=0):=by
   intro h
   rcases Nat.mul_eq_zero.1 h with h|h<;>omega
  simp[bu,lb]
theorem jy9 (m:av P C ω w0 C0 hp w)(e:ak C ω w w0.heap.size env tmps){b r s cells}{t:TypeId}{us news}(hh:hp[b]?=I .hole)(hω:ω r=I (.slot s))(hB:w0.heap.size≤r∨C.W r)(hβ:∀b,C.β b≠I r)
  (hg:w.heap[r]?=I (.cells cells t (0,0))) (hK:∀o,C.K r o=Ek) (cf:news.length≤cells.size) (gw:aK C us news) (cI:∀v∈news,v.oneCell'=Ga):
  av P (C.box b r) ω w0 C0 (hp.set b (.cells (cellsOf us))) (w.setRow r (cells.toList.take 0++news++cells.toList.drop (0+news.length)).toArray) ∧
  ak (C.box b r) ω (w.setRow r (cells.toList.take 0++news++cells.toList.drop (0+news.length)).toArray) w0.heap.size (gq env (I s)) tmps∧C.le (C.box b r):=by
 have hu:=Gg hg (cells.toList.take 0++news++cells.toList.drop (0+news.length)).toArray
 have lF:=setRow_heap w r cells (cells.toList.take 0++news++cells.toList.drop (0+news.length)).toArray t (0,0) hg
 generalize w.setRow r (cells.toList.take 0++news++cells.toList.drop (0+news.length)).toArray=w' at hu lF
 have Uk:=Gs m hh
 have hle:=aA.kE (C:=C) (r:=r) Uk
 have bh:b<hp.length:=(Eu.1 hh).1
 have Ul:r<w.heap.size:=(G2.1 hg).1
 have cA:∀ℓ x v,ℓ≠.slot s→aB C ω w w0.heap.size ℓ x v→aB (C.box b r) ω w' w0.heap.size ℓ x v:=by
  intro ℓ x v hℓ ho
  have bu:ω r≠I ℓ:=by rw[hω];intro h;exact hℓ (I.inj h).symm
  exact(ho.box (.inr bu)).ib hu bu
 refine⟨?_,?_,hle⟩
 ·refine { base:=m.base,know:=?_,cP:=m.cP,apart:=?_,inj:=?_,lt:=?_,size:=?_,frame:=?_,eQ:=?_,os:=hu.os.trans m.os,output:=hu.output.trans m.output,fresh:=?_,grown:=aA.le_trans m.grown hle,old:=m.old,box:=?_,gW:=fun q hq=>by rw[hu.size];exact m.gW q hq }
  ·intro k q v hk
   have gM:k≠r:=fun h=>by
    have ez:C.K k q=I v:=hk
    rw[h,hK q]at ez;cases ez
   have hc:=m.know _ _ _ hk
   simp only[World.cell?]at hc ⊢
   rw[hu.other k gM];exact hc
  ·intro k q p hk
   simp only[aA.box]at hk
   split at hk
   ·cases hk;exact hK p
   ·exact m.apart k q p hk
  ·intro k k' q hk ez
   simp only[aA.box]at hk ez
   split at hk<;>split at ez
   ·rename_i h1 h2;rw[h1,h2]
   ·cases hk;exact absurd ez (hβ k')
   ·cases ez;exact absurd hk (hβ k)
   ·exact m.inj k k' q hk ez
  ·intro k q hk
   rw[Ou,hu.size]
   simp only[aA.box]at hk
   split at hk
   ·rename_i h1;cases hk;subst h1;exact⟨Ul,bh⟩
   ·exact m.lt k q hk
  ·rw[hu.size];exact m.size
  ·intro k hk hn hw
   have gM:k≠r:=fun h=>by
    subst h
    rcases hB with h|h
    ·omega
    ·rw[m.grown.w]at h;exact hw h
   rw[hu.other k gM];exact m.frame k hk hn hw
  ·intro k hk
   have gM:k≠r:=fun h=>by
    subst h
    have:=m.eQ k hk
    rw[hg]at this;cases this
   rw[hu.other k gM];exact m.eQ k hk
  ·intro k q hk
   simp only[aA.box]at hk
   split at hk
   ·cases hk
    rcases hB with h|h
    ·exact .inr (.inl h)
    ·rw[m.grown.w]at h;exact .inr (.inr h)
   ·exact m.fresh k q hk
  ·intro k x q hx hk
   simp only[aA.box]at hk
   split at hk
   ·rename_i h1
    subst h1
    cases hk
    rw[Hc bh]at hx
    cases hx
    have mV:=gw.length
    refine⟨_,t,lF,by simp[cellsOf];omega,?_⟩
    intro j c hc
    simp only[cellsOf,Hm,Eh]at hc
    obtain⟨x,hx,rfl⟩:=hc
    obtain⟨v,h1,h2⟩:=gw.get hx
    have hj:j<news.length:=(Eu.1 h1).1
    refine⟨v,?_,cI v (Hd h1),qh.mono hle h2,by simp⟩
    simp only[List.take_zero,Hf,Ge]
    rw[Gh hj];exact h1
   ·rename_i h1
    rw[Hw (Ne.symm h1)]at hx
    have bu:q≠r:=fun h=>hβ k (h▸hk)
    have lf:bp P C ω w' w0.heap.size k q x:=(m.box k x q hx hk).ib hu bu (fun j=>by rw[hω];simp)
    exact lf.mono hle fun j y v ho=>ho.box (.inr (by rw[hω];simp))
 ·intro t' x hx
  by_cases lD:t'=s
  ·subst lD
   simp only[gq]at hx
   cases hl:yd t' env with
   |none=>rw[hl]at hx;simp only[hl]at hx;cases hx
   |some y=>
    rw[hl]at hx
    simp only[yd,Nat.beq_refl,cT]at hx
    cases hx
    obtain⟨v,h2,h3,_⟩:=e t' y hl
    exact⟨v,h2,qh.mono hle h3,by simp⟩
  ·have eK:yd t' env=I x:=by
    simp only[gq]at hx
    cases hl:yd s env with
    |none=>rw[hl]at hx;exact hx
    |some y=>
     rw[hl]at hx
     simp only[yd]at hx
     have:Gv s t'=En:=by
      cases hb:Gv s t' with
      |false=>rfl
      |true=>exact absurd (Eo hb).symm lD
     rw[this]at hx
     exact hx
   obtain⟨v,h2,h3,h4⟩:=e t' x eK
   exact⟨v,h2,qh.mono hle h3,fun h=>cA _ _ _ (by simp[lD]) (h4 h)⟩
theorem q6d {xs vs}{t:TypeId}{B b r cells}(hr:aK C xs vs)(cI:∀v∈vs,v.oneCell'=Ga)(hv:∀(j:Nat) v,vs[j]?=I v→cells[j]?=I v)(hl:xs.length≤cells.size):
  ∀C' ω' w',C.le C'→w'.heap[r]?=I (.cells cells t (0,0))→bp P C' ω' w' B b r (.cells (cellsOf xs)):=by
 intro C' ω' w' hle hg
 refine⟨cells,t,hg,by simpa[cellsOf]using hl,?_⟩
 intro j c hc
 simp only[cellsOf,Hm,Eh]at hc
 obtain⟨x,hx,rfl⟩:=hc
 obtain⟨v,h1,h2⟩:=hr.get hx
 exact⟨v,hv j v h1,cI v (Hd h1),qh.mono hle h2,by simp⟩
theorem q1y (m:av P C ω w0 C0 hp w)(e:ak C ω w w0.heap.size env a.tmps){c}{t u el:TypeId}{ut:TypeDesc}{x y x' y' sz b h0 rk n cJ ys vy h'}
  (ho:o.op=.call c) (dz:c.callee=.builtin .append) (dL:c.args.toList=[x,y]) (dY:c.argTypes.toList=[t,u]) (ht:P.underlying t=I (.slice el)) (hu:P.underlying u=I ut) (iZ:z7 ut=Ga)
  (hn:yf P el=I sz) (hb:nJ P el=I b) (h1:zp x=I x') (h2:zp y=I y') (e1:zc env x'=I (.list n cJ [])) (e2:zc env y'=I vy) (cx:ku sz vy=I ys)
  (cA:(kn env x').isSome=Ga) (Um:n=En) (hlen:ys.length≤1073741824) (iY:b≤4096) (hzero:∃z,ei P el=I z∧z.length=sz) (Ap:sz=cJ)
  (cQ:aF h0 hp rk (.cells (cellsOf (ys.flatMap qa.flat)))=I h'):
  ∃v w',(execOp a.eval o).run P w=.ok (.value v) w'∧km P C0 w0 C a.tmps d env ⟨.ms (h0+rk) 0 ys.length,En,kn env x',h'⟩ v w':=by
 obtain⟨hh,rfl⟩:=lE cQ
 subst Um
 subst Ap
 have ha:c.args=#[x,y]:=by apply Gf;simpa using dL
 have kB:c.argTypes=#[t,u]:=by apply Gf;simpa using dY
 obtain⟨i,hi,qF⟩:∃i,P.info? el=I i∧i.bytes=b:=by
  unfold nJ at hb
  cases hi:P.info? el with
  |none=>simp[hi]at hb
  |some i=>exact⟨i,rfl,by simpa[hi]using hb⟩
 have kC:i.size=sz:=by
  unfold yf at hn;rw[hi]at hn;simpa using hn
 obtain⟨z,hz,Aq⟩:=hzero
 obtain⟨zv,mU⟩:∃zv,i.zero=I zv:=by
  unfold ei at hz;rw[hi]at hz
  cases hq:i.zero with
  |none=>simp[hq]at hz
  |some v=>exact⟨v,rfl⟩
 have rx:=zq e.bU h1 e1
 have ry:=zq e.bU h2 e2
 obtain⟨news,hs,cH,fk,cI⟩:=NR m hu iZ cx ry
 have ey:∀ {z:Value} {w':World},(Builtin.append_ #[t,u] o.type #[a.eval x,a.eval y]).run P w=.ok z w'→(execOp a.eval o).run P w=.ok (.value z) w':=by
  intro z w' h
  simp[execOp,ho,resolve,dz,ha,kB,invoke,builtin,h]
 have mV:news.length=ys.length*sz:=by rw[cH.length,lB ys fk]
 rcases rx.cG with⟨hh1,_,_⟩|⟨_,r,q,cap,hx,hle,cL⟩|⟨_,_,ad,l7,hx⟩
 rotate_right
 ·exact absurd (q3n e h1 cA e1 hx) l7
 ·cases hh1
 ·obtain⟨s,gy⟩:=Option.isSome_iff_exists.1 cA
  obtain⟨eK,v0,hl⟩:=Gj gy
  have iK:v0=.list En sz []:=by
   subst eK
   simp only[zc,hl]at e1
   exact I.inj e1
  subst iK
  obtain⟨cv,xC,NS,Ao⟩:=e s _ hl
  have ox:cv=.slice (I ⟨r,q,Ek⟩) 0 cap:=by
   have ic:zp x=I (.tmp s):=by rw[h1,eK]
   cases x with
   |tmp t'=>
    simp only[zp]at ic
    cases ic
    have:a.eval (.tmp s)=cv:=by simp[Act.eval,Hj,xC]
    rw[←this,hx];rfl
   |const u=>simp only[zp]at ic;split at ic<;>cases ic
   |func f=>simp[zp]at ic
   |global g=>simp[zp]at ic
  subst ox
  obtain⟨hω,hB,hβ,_,NT,⟨cells,te,hg,cf⟩,hK⟩:=Ao rfl
  simp only at hω hB hβ hg cf hK NT
  subst NT
  simp only[List.length_nil]at hx
  by_cases dR:0+ys.length≤cap
  ·have fZ:(0+ys.length)*sz≤cap*sz:=Gb _ dR
   have bq:=Uc (P:=P) (w:=w) (ty:=o.type) ht hi r 0 0 cap (a.eval y) ys.length news (kC▸hs) dR hg (by rw[mV];simp at fZ cf ⊢;omega)
   rw[←hx]at bq
   have e0:0+0*i.size=0:=by simp
   rw[e0]at bq
   obtain⟨m',e',cy⟩:=jy9 (tmps:=a.tmps) m e hh hω hB hβ hg (fun o=>hK o (by simp)) (by rw[mV];simp at fZ cf ⊢;omega) cH cI
   rw[gy]
   refine⟨_,_,ey bq,_,_,cy,m',e',?_,by simp⟩
   have:=qh.ms (C:=C.box (h0+rk) r) (h0+rk) 0 ys.length r cap (by simp[aA.box]) (by omega)
   simpa using this
  ·have Gw:Builtin.nextslicecap (0+ys.length) cap*i.bytes≤281474976710656:=growslice_fits (by omega) (by
    rw[qF]
    exact G6 (Hg (by omega) iY) (by decide:2^30*4096≤_))
   have bq:=run_append_grow_src w t u o.type el i zv ht hi mU (I ⟨r,0,Ek⟩) 0 cap [] (run_firstCells_some _ _ _ _ _ _ [] (by simp) (by simp)) (a.eval y) ys.length news (kC▸hs) (by omega) (by omega) Gw
   rw[←hx]at bq
   have uN:=grownCap_ge w (0+ys.length) cap el
   have ie:Ext w w.drew:=Ext.drew w
   obtain⟨m',e',cy⟩:=(m.ext ie).aF (e.ext ie) hh (.cells (([]++news).toArray++Builtin.zeroCells zv.cells (grownCap w (0+ys.length) cap el-(0+ys.length))) el) (fun c t fr h=>by cases h;rfl) (.cells (cellsOf (ys.flatMap qa.flat)))
    (q6d cH cI (by
     intro j v hj
     rw[G3 (by simpa using(Eu.1 hj).1)]
     simpa using hj) (by have h5:=cH.length;rw[Hn];simp only[Hf,Ho];omega))
   refine⟨_,_,ey bq,_,_,cy,m',e'.strip _,?_,by simp⟩
   have:=qh.ms (C:=C.box (h0+rk) w.drew.heap.size) (h0+rk) 0 ys.length w.drew.heap.size (grownCap w (0+ys.length) cap el) (by simp[aA.box]) (by omega)
   simpa using this
end
section
variable {P:Program}{C C0:aA}{ω:Nat→Option Loc}{w w' w0:World}{hp:za}{env:Env}{a:Act}{o:Oper}{tmps:Array Value}{d:Loc}
theorem NV {b bz len v}(h:bG C (.au b bz len) v):∃r0 r cap,C.β b=I r0∧C.T (r0,bz,r,cap)∧len≤cap∧v=.slice (I ⟨r,0,Ek⟩) len cap:=by
 cases h with
 |au _ _ _ r0 r cap hb ht hl=>exact⟨r0,r,cap,hb,ht,hl,rfl⟩
theorem q7h {b bz off v}(h:bG C (.dl b bz off) v):∃r0 r cap,C.β b=I r0∧C.T (r0,bz,r,cap)∧v=.pointer (I ⟨r,off,Ek⟩):=by
 cases h with
 |dl _ _ _ r0 r cap hb ht=>exact⟨r0,r,cap,hb,ht,rfl⟩
theorem q0a {t:TypeId}{x x' i fs f n b bz q}(he:aX C env a.tmps)(ho:o.op=.fieldAddr t x i)(ht:P.underlying t=I (.struct fs))(hf:fs[i]?=I f)
  (hn:yf P f.type=I n) (Ah:0<n) (h1:zp x=I x') (e1:zc env x'=I (.dl b bz q)):Val P C a o w (.dl b bz (q+f.offset)):=by
 obtain⟨r0,r,cap,hb,hT,hq⟩:=q7h (zq he h1 e1)
 refine⟨.pointer (I ⟨r,q+f.offset,Ek⟩),?_,.dl _ _ _ r0 r cap hb hT⟩
 simp[execOp,ho,Instr.fieldAt,run_underlying ht,hf,hq,Instr.sureAddr,fieldPlace,iX hn,Nat.pos_iff_ne_zero.1 Ah,add_lit]
theorem qz3 {t e:TypeId}{x i x' i' sz iv b bz len j}(he:aX C env a.tmps)(ho:o.op=.indexAddr t x i)(ht:P.underlying t=I (.slice e))
  (hn:yf P e=I sz) (h1:zp x=I x') (h2:zp i=I i') (e1:zc env x'=I (.au b bz len)) (e2:zc env i'=I iv) (hj:idx len iv=I j):Val P C a o w (.dl b bz (j*sz)):=by
 obtain⟨r0,r,cap,hb,hT,_,hq⟩:=NV (zq he h1 e1)
 obtain⟨k,rfl,bh⟩:=Gd hj
 have hi:=(zq he h2 e2).bJ
 refine⟨.pointer (I ⟨r,j*sz,Ek⟩),?_,.dl _ _ _ r0 r cap hb hT⟩
 simp[execOp,ho,Instr.indexAt,run_underlying ht,hq,hi,asIntOf,iX hn,bh,add_lit]
theorem jbh {t e:TypeId}{x lo hi x' ly fI sz j b bz len}(he:aX C env a.tmps)(ho:o.op=.slice t x lo hi Ek)(ht:P.underlying t=I (.slice e))
  (hn:yf P e=I sz) (h1:zp x=I x') (h2:mO lo=I ly) (h3:mO hi=I fI) (e1:zc env x'=I (.au b bz len)) (b2:eY env len len fI=I j) (b1:eY env 0 j ly=I 0):Val P C a o w (.au b bz j):=by
 obtain⟨r0,r,cap,hb,hT,hl,hq⟩:=NV (zq he h1 e1)
 obtain⟨gY,k1,k2⟩:=NM (P:=P) (isS:=true) he h2 h3 b2 b1 hl w
 refine⟨.slice (I ⟨r,0,Ek⟩) j cap,?_,.au _ _ _ r0 r cap hb hT (by omega)⟩
 simp[execOp,ho,Instr.sliceAt,Instr.slice,run_underlying ht,hq,gY,iX hn,add_lit]
theorem ji5 {c x}{t e:TypeId}{x' b bz n}(he:aX C env a.tmps)(ho:o.op=.call c)(dz:c.callee=.builtin .len)(dL:c.args.toList=[x])(dY:c.argTypes.toList=[t])
  (h1:zp x=I x') (e1:zc env x'=I (.au b bz n)) (ht:P.underlying t=I (.slice e)):Val P C a o w (.int .i64 n):=by
 have ha:c.args=#[x]:=by apply Gf;simpa using dL
 have kB:c.argTypes=#[t]:=by apply Gf;simpa using dY
 refine⟨.int .i64 n,?_,.int _ _⟩
 simp only[execOp,ho,resolve,dz,ha,kB,Sem.run_bind,Sem.run_pure,Result.andThen_ok,invoke,builtin,Builtin.len_]
 obtain⟨r0,r,cap,_,_,_,hq⟩:=NV (zq he h1 e1)
 simp[run_underlying ht,hq,goInt]
theorem jfu (m:av P C ω w0 C0 hp w){b bz q cap r0 sz xs}(hb:C.β b=I r0)(hT:C.T (r0,bz,q,cap))(gd:hp[b]?=I (.vec sz bz xs)):
  ∃vs,aK C (xs.flatMap qa.flat) vs∧(∀(j:Nat) v,vs[j]?=I v→w.cell? ⟨q,j,Ek⟩=I v∧v.oneCell'=Ga)∧dP C.K w q sz xs cap:=by
 obtain⟨q',kF,k1,k2,k3,k4,_⟩:=m.box b _ r0 gd hb
 have heq:=(k2 _ hT rfl).2 rfl
 simp only[Prod.mk.injEq]at heq
 obtain⟨rfl,rfl⟩:=heq
 obtain⟨cells,t,vs,g1,g2,g3,g4,g5,g6,g7⟩:=id k3
 refine⟨vs,qh.imp (C:=.bL C.K) (C':=C) ⟨fun _ _ _ h=>h,fun b r h=>by cases h⟩ g5 (fun _ h=>h.elim),fun j v hj=>⟨?_,g7 v (Hd hj)⟩,k3⟩
 unfold World.cell?
 rw[g1]
 simp only[G5,Gk,if_false]
 exact g6 j v hj
theorem q0y (m:av P C ω w0 C0 hp w)(he:aX C env a.tmps){t:TypeId}{x x' n ag b bz q sz xs v}(ho:o.op=.load t x)(hg:fh P t=I ag)(hn:yf P t=I n)(h1:zp x=I x')(e1:zc env x'=I (.dl b bz q))
  (gd:hp[b]?=I (.vec sz bz xs)) (hl:q+n≤(xs.flatMap qa.flat).length) (hv:(ag=Ga∧v=.agg (((xs.flatMap qa.flat).drop q).take n))∨(ag=En∧((xs.flatMap qa.flat).drop q).take n=[v])):Val P C a o w v:=by
 obtain⟨r0,r,cap,hb,hT,hq⟩:=q7h (zq he h1 e1)
 obtain⟨vs,k1,k2,_⟩:=jfu m hb hT gd
 have k3:aK C (((xs.flatMap qa.flat).drop q).take n) ((vs.drop q).take n):=(k1.drop q).take n
 have k4:∀j u,((vs.drop q).take n)[j]?=I u→w.cell? ⟨r,q+j,Ek⟩=I u:=by
  intro j u hj
  rw[N2]at hj
  split at hj
  ·rw[List.getElem?_drop]at hj;exact(k2 _ _ hj).1
  ·cases hj
 have k5:((vs.drop q).take n).length=n:=by rw[k3.length,Oh,List.length_drop];omega
 rcases hv with⟨rfl,rfl⟩|⟨rfl,hv⟩
 ·exact⟨.agg ⟨(vs.drop q).take n⟩,by simp[execOp,ho,Instr.loadAt,hq,Instr.sureAddr,Gp hg hn k5 k4],.agg _ _ k3⟩
 ·rw[hv]at k3
  generalize hgen:(vs.drop q).take n=us at k3 k4 k5
  cases k3 with
  |cons _ _ u us hu kA=>
   cases kA
   refine⟨u,?_,hu⟩
   have:=Gq (P:=P) hg (by simpa using k4 0 u rfl)
   simp[execOp,ho,Instr.loadAt,hq,Instr.sureAddr,this]
def aA.tok (C:aA)(x:Nat×Nat×Nat×Nat):aA:={ C with T:=fun q=>C.T q∨q=x }
theorem aA.gf {x}:C.le (C.tok x):=⟨fun _ _ _ h=>h,fun _ _ h=>h,rfl,fun _ h=>h,fun _ h=>.inl h⟩
theorem aB.tok {x B ℓ y v}(h:aB C ω w B ℓ y v):aB (C.tok x) ω w B ℓ y v:=by
 unfold aB at *
 exact h
theorem ak.tok {x B}(e:ak C ω w B env tmps):ak (C.tok x) ω w B env tmps:=
 fun s y hy=>let ⟨v,h1,h2,h3⟩:=e s y hy; ⟨v,h1,qh.mono aA.gf h2,fun h=>(h3 h).tok⟩
theorem av.qL (m:av P C ω w0 C0 hp w){b r sz bz q cap xs}(hβ:C.β b=I r)(hT:∀x,C.T x→x.1=r→x.2.1<bz)(hv:dP C.K w q sz xs cap)(ho:q=r∨xw C ω w w0.heap.size b q xs.length cap)(hr:∃cs t,w.heap[r]?=I (.cells cs t (0,0))):
  av P (C.tok (r,bz,q,cap)) ω w0 C0 (hp.set b (.vec sz bz xs)) w:=by
 have bh:=m.lt b r hβ
 refine { m with lt:=fun k p hk=>by rw[Ou];exact m.lt k p hk,grown:=aA.le_trans m.grown aA.gf,box:=?_,gW:=?_ }
 ·intro k y p hy hk
  by_cases kD:k=b
  ·subst kD
   rw[Hc bh.2]at hy
   cases hy
   obtain rfl:r=p:=by have:C.β k=I p:=hk;rw[hβ]at this;exact I.inj this
   refine⟨q,cap,.inr rfl,fun x hx hxr=>?_,hv,ho.imp id fun h=>h.tok,hr⟩
   rcases hx with hx|rfl
   ·have:=hT x hx hxr
    exact⟨by omega,fun h=>by omega⟩
   ·exact⟨Gm _,fun _=>rfl⟩
  ·rw[Hw (Ne.symm kD)]at hy
   have qE:p≠r:=fun h=>kD (m.inj k b p hk (h▸hβ))
   refine(m.box k y p hy hk).mono aA.gf (fun j z u h=>h.tok) (fun x hx hxp=>?_)
   rcases hx with hx|rfl
   ·exact hx
   ·exact absurd hxp.symm qE
 ·intro x hx
  rcases hx with hx|rfl
  ·exact m.gW x hx
  ·exact bh.1
theorem av.qM (m:av P C ω w0 C0 hp w){b r}(hβ:C.β b=I r)(hr:∃cs t,w.heap[r]?=I (.cells cs t (0,0))):av P C ω w0 C0 (hp.set b .dead) w:=
 m.dv (ω':=ω) (w':=w) (r:=r) (b:=b) ⟨rfl,fun _ _=>rfl,fun c t fr h=>by obtain⟨cs,t',h'⟩:=hr;rw[h']at h;cases h;rfl,rfl,rfl⟩ hβ .dead (fun _ _ _ _ _ h=>h) hr
theorem av.Au (m:av P C ω w0 C0 hp w){b q n cap cs}(hd:hp[b]?=I .dead)(ho:xw C ω w w0.heap.size b q n cap)(hu:jn w w' q cs):av P C ω w0 C0 hp w':=by
 obtain⟨h1,h2,h3,_,_,⟨cells,elem,h5,_⟩,h7⟩:=ho
 simp only at h1 h2 h3 h5 h7
 have hK:∀o,C.K q o=Ek:=fun o=>h7 o (by simp)
 refine { base:=m.base,know:=?_,cP:=m.cP,apart:=m.apart,inj:=m.inj,lt:=?_,size:=?_,frame:=?_,eQ:=?_,os:=hu.os.trans m.os,output:=hu.output.trans m.output,fresh:=m.fresh,grown:=m.grown,old:=m.old,box:=?_,gW:=fun x hx=>by rw[hu.size];exact m.gW x hx }
 ·intro k p v hk
  have bu:k≠q:=fun h=>by rw[h,hK p]at hk;cases hk
  have hc:=m.know _ _ _ hk
  simp only[World.cell?]at hc ⊢
  rw[hu.other k bu];exact hc
 ·intro k p hk;rw[hu.size];exact m.lt k p hk
 ·rw[hu.size];exact m.size
 ·intro k hk hn hw
  have bu:k≠q:=fun h=>by
   subst h
   rcases h2 with h|h
   ·omega
   ·rw[m.grown.w]at h;exact hw h
  rw[hu.other k bu];exact m.frame k hk hn hw
 ·intro k hk
  have bu:k≠q:=fun h=>by
   subst h
   have:=m.eQ k hk
   rw[h5]at this;cases this
  rw[hu.other k bu];exact m.eQ k hk
 ·intro k x p hx hk
  have bu:p≠q:=fun h=>h3 k (h▸hk)
  by_cases kD:k=b
  ·subst kD
   rw[hd]at hx
   cases hx
   obtain⟨dV,t',hg⟩:=m.box k .dead p hd hk
   exact⟨dV,t',by rw[hu.other p bu];exact hg⟩
  ·exact(m.box k x p hx hk).ib hu bu (fun j=>by rw[h1];intro h;injection h with h;injection h with h _;exact kD h.symm)
theorem qr4 {sz}:∀ {xs:List qa} (n:Nat),(∀x∈xs,x.flat.length=sz)→(xs.take n).flatMap qa.flat=(xs.flatMap qa.flat).take (n*sz)
 | [],n,_=>by simp
 |x::xs,0,_=>by simp
 |x::xs,n+1,h=>by
  have hx:=h x (N3 ..)
  have h1:x.flat.take ((n+1)*sz)=x.flat:=List.take_of_length_le (by rw[hx,Nat.succ_mul];omega)
  have h2:(n+1)*sz-sz=n*sz:=by rw[Nat.succ_mul];omega
  rw[List.take_succ_cons,Hq,Hq,qr4 n (fun y hy=>h y (Hx _ hy)),List.take_append,hx,h1,h2]
theorem dP.grown {K q q' sz len cap kF xs ys news dZ dm}{t':TypeId}(h:dP K w q sz xs cap)(hl:len≤xs.length)(cH:aK (.bL K) (ys.flatMap qa.flat) news)(fk:∀y∈ys,y.flat.length=sz)(cI:∀v∈news,v.oneCell'=Ga)
  (hold:∀vs:List Value,aK (.bL K) (xs.flatMap qa.flat) vs→(∀(j:Nat) v,vs[j]?=I v→w.cell? ⟨q,j,Ek⟩=I v)→dZ=vs.take (len*sz)) (hcap:len+ys.length≤kF) (cf:kF*sz≤dm.size)
  (hg:w'.heap[q']?=I (.cells dm t' (0,0))) (hc:∀(j:Nat) v,(dZ++news)[j]?=I v→dm[j]?=I v):dP K w' q' sz (xs.take len++ys) kF:=by
 obtain⟨cells,t,vs,g1,g2,g3,g4,g5,g6,g7⟩:=h
 have ho:dZ=vs.take (len*sz):=hold vs g5 (fun j v hj=>by
  unfold World.cell?
  rw[g1]
  simp only[G5,Gk,if_false]
  exact g6 j v hj)
 refine⟨dm,t',dZ++news,hg,by rw[N5,Oh];omega,cf,?_,?_,hc,?_⟩
 ·intro x hx
  rcases Ov.1 hx with hx|hx
  ·exact g4 x (If hx)
  ·exact fk x hx
 ·rw[List.flatMap_append,qr4 len g4,ho]
  exact(g5.take _).append cH
 ·intro v hv
  rcases Ov.1 hv with hv|hv
  ·rw[ho]at hv;exact g7 v (If hv)
  ·exact cI v hv
theorem aK.pure {xs vs}(h:aK C xs vs)(hb:zr 0 xs=Ga):aK (.bL C.K) xs vs:=
 qh.shift (C:=C) (C':=.bL C.K) 0 (fun _ _ _ h=>h) (fun b r bh=>by omega) h hb
theorem Un {n}:∀ {xs:List qa},zr n xs=Ga→zr n (xs.flatMap qa.flat)=Ga
 | [],_=>rfl
 |x::xs,h=>by
  simp only[zr,Ev]at h
  have key:∀(ys zs:List qa),zr n ys=Ga→zr n zs=Ga→zr n (ys++zs)=Ga:=by
   intro ys zs
   induction ys with
   |nil=>intro _ h;exact h
   |cons y ys ih=>intro h1 h2;simp only[zr,Ev,List.cons_append]at h1 ⊢;exact⟨h1.1,ih h1.2 h2⟩
  rw[Hq]
  exact key _ _ (by rw[NE];exact h.1) (Un h.2)
theorem aK.fun {xs}:∀ {vs ws:List Value},aK C xs vs→aK C xs ws→vs.length=ws.length:=fun h k=>by rw[h.length,k.length]
theorem jia (m:av P C ω w0 C0 hp w)(e:ak C ω w w0.heap.size env a.tmps){c}{t u el:TypeId}{ut:TypeDesc}{x y x' y' sz b bx bz len xs ys vy h'}
  (ho:o.op=.call c) (dz:c.callee=.builtin .append) (dL:c.args.toList=[x,y]) (dY:c.argTypes.toList=[t,u]) (ht:P.underlying t=I (.slice el)) (hu:P.underlying u=I ut) (iZ:z7 ut=Ga)
  (hn:yf P el=I sz) (hb:nJ P el=I b) (h1:zp x=I x') (h2:zp y=I y') (e1:zc env x'=I (.au bx bz len)) (e2:zc env y'=I vy) (cx:ku sz vy=I ys)
  (gd:hp[bx]?=I (.vec sz bz xs)) (hle:len≤xs.length) (hlen:len+ys.length≤1073741824) (iY:b≤4096) (Uo:zr 0 ys=Ga) (hzero:∃z,ei P el=I z∧z.length=sz)
  (bn:yh hp bx (.vec sz (bz+1) (xs.take len++ys))=I h'):
  ∃v w',(execOp a.eval o).run P w=.ok (.value v) w'∧km P C0 w0 C a.tmps d env ⟨.au bx (bz+1) (len+ys.length),En,Ek,h'⟩ v w':=by
 have fK:h'=hp.set bx (.vec sz (bz+1) (xs.take len++ys)):=by
  unfold yh at bn
  cases vW:Nat.blt bx hp.length with
  |false=>simp[vW]at bn
  |true=>simpa[vW]using bn.symm
 subst fK
 have ha:c.args=#[x,y]:=by apply Gf;simpa using dL
 have kB:c.argTypes=#[t,u]:=by apply Gf;simpa using dY
 obtain⟨i,hi,qF⟩:∃i,P.info? el=I i∧i.bytes=b:=by
  unfold nJ at hb
  cases hi:P.info? el with
  |none=>simp[hi]at hb
  |some i=>exact⟨i,rfl,by simpa[hi]using hb⟩
 have kC:i.size=sz:=by
  unfold yf at hn;rw[hi]at hn;simpa using hn
 obtain⟨z,hz,Aq⟩:=hzero
 obtain⟨zv,mU⟩:∃zv,i.zero=I zv:=by
  unfold ei at hz;rw[hi]at hz
  cases hq:i.zero with
  |none=>simp[hq]at hz
  |some v=>exact⟨v,rfl⟩
 have ry:=zq e.bU h2 e2
 obtain⟨news,hs,cH,fk,cI⟩:=NR m hu iZ cx ry
 have qN:aK (.bL C.K) (ys.flatMap qa.flat) news:=cH.pure (Un Uo)
 have ey:∀ {z:Value} {w':World},(Builtin.append_ #[t,u] o.type #[a.eval x,a.eval y]).run P w=.ok z w'→(execOp a.eval o).run P w=.ok (.value z) w':=by
  intro z w' h
  simp[execOp,ho,resolve,dz,ha,kB,invoke,builtin,h]
 have mV:news.length=ys.length*sz:=by rw[cH.length,lB ys fk]
 obtain⟨r0,q,cap,hβ,hT,hlc,hx⟩:=NV (zq e.bU h1 e1)
 obtain⟨q',kF,k1,k2,k3,k4,k5⟩:=m.box bx _ r0 gd hβ
 have heq:=(k2 _ hT rfl).2 rfl
 simp only[Prod.mk.injEq]at heq
 obtain⟨rfl,rfl⟩:=heq
 have qO:∀x,C.T x→x.1=r0→x.2.1<bz+1:=fun x hx hr=>by have:=(k2 x hx hr).1;omega
 have vW:=(m.lt bx r0 hβ).2
 -- the old cells
 obtain⟨cells,te,vs,g1,g2,g3,g4,g5,g6,g7⟩:=id k3
 have vS:vs.length=xs.length*sz:=by rw[g5.length,lB xs g4]
 have hvle:xs.length*sz≤cap*sz:=Gb _ g2
 have hlle:len*sz≤xs.length*sz:=Gb _ hle
 have hold:∀qP:List Value,aK (.bL C.K) (xs.flatMap qa.flat) qP→(∀(j:Nat) v,qP[j]?=I v→w.cell? ⟨q,j,Ek⟩=I v)→vs.take (len*sz)=qP.take (len*sz):=by
  intro qP h3 h4
  have hl':qP.length=vs.length:=by rw[h3.length,g5.length]
  have:qP=vs:=by
   apply Ob
   intro j
   by_cases hj:j<vs.length
   ·have h5:=h4 j _ (Gi (by omega))
    have h6:=g6 j _ (Gi hj)
    unfold World.cell? at h5
    rw[g1]at h5
    simp only[G5,Gk,if_false]at h5
    rw[Gi hj,Gi (by omega),←h5,h6]
   ·rw[Ht (by omega),Ht (by omega)]
  rw[this]
 by_cases dR:len+ys.length≤cap
 ·-- there is room
  have fZ:(len+ys.length)*sz≤cap*sz:=Gb _ dR
  rw[Hu]at fZ
  have bq:=Uc (P:=P) (w:=w) (ty:=o.type) ht hi q 0 len cap (a.eval y) ys.length news (kC▸hs) dR g1 (by rw[kC,mV];omega)
  rw[←hx,kC]at bq
  have nS:=Gg g1 (cells.toList.take (0+len*sz)++news++cells.toList.drop (0+len*sz+news.length)).toArray
  have lF:=setRow_heap w q cells (cells.toList.take (0+len*sz)++news++cells.toList.drop (0+len*sz+news.length)).toArray te (0,0) g1
  generalize Ub:w.setRow q (cells.toList.take (0+len*sz)++news++cells.toList.drop (0+len*sz+news.length)).toArray=w' at bq nS lF
  have Av:dP C.K w' q sz (xs.take len++ys) cap:=by
   refine dP.grown (dZ:=vs.take (len*sz)) k3 hle qN fk cI hold dR (by simp;omega) lF ?_
   intro j v hj
   rw[Ge]
   have dY:(cells.toList.take (0+len*sz)).length=len*sz:=by simp;omega
   have lG:(vs.take (len*sz)).length=len*sz:=by simp;omega
   by_cases Ep:j<len*sz
   ·rw[Od,Gh (by rw[dY];exact Ep)]
    rw[Gh (by rw[lG];exact Ep),Hr Ep]at hj
    rw[Hr (by omega),Gc]
    exact g6 j v hj
   ·rw[Hl (by rw[lG];omega),lG]at hj
    have hjn:j-len*sz<news.length:=(Eu.1 hj).1
    rw[Od,Hl (by rw[dY];omega),dY,Gh hjn]
    exact hj
  have fin:∀(m1:av P C ω w0 C0 (hp.set bx .dead) w') (e1:ak C ω w' w0.heap.size env a.tmps) (Gn:q=r0∨xw C ω w' w0.heap.size bx q (xs.take len++ys).length cap) (vX:∃cs t,w'.heap[r0]?=I (.cells cs t (0,0))),
    km P C0 w0 C a.tmps d env ⟨.au bx (bz+1) (len+ys.length),En,Ek,hp.set bx (.vec sz (bz+1) (xs.take len++ys))⟩ (.slice (I ⟨q,0,Ek⟩) (len+ys.length) cap) w':=by
   intro m1 e1 Gn vX
   have m2:=m1.qL (b:=bx) (sz:=sz) (bz:=bz+1) (q:=q) (cap:=cap) (xs:=xs.take len++ys) hβ qO Av Gn vX
   rw[N7]at m2
   exact⟨_,ω,aA.gf,m2,e1.tok,.au _ _ _ r0 q cap hβ (.inr rfl) dR,by simp⟩
  refine⟨_,_,ey bq,?_⟩
  rcases k4 with rfl|k4
  ·refine fin ?_ (e.dh nS.ib hβ) (.inl rfl) ⟨_,_,lF⟩
   exact m.dv nS.ib hβ .dead (fun _ _ _ _ _ h=>h) ⟨_,_,lF⟩
  ·have hqr:q≠r0:=fun h=>k4.2.2.1 bx (by rw[hβ];exact congrArg I h.symm)
   have md:=m.qM hβ k5
   have m1:=md.Au (by rw[Hc vW]) k4 nS
   obtain⟨Up,t5,k5⟩:=k5
   refine fin m1 ?_ (.inr ?_) ⟨Up,t5,by rw[nS.other _ (Ne.symm hqr)];exact k5⟩
   ·exact fun s y hy=>let ⟨v,j1,j2,j3⟩:=e s y hy; ⟨v,j1,j2,fun h=>(j3 h).ib nS (by rw[k4.1];simp)⟩
   ·obtain⟨j1,j2,j3,j4,j5,_,j7⟩:=k4
    exact⟨j1,j2,j3,j4,j5,⟨_,te,lF,by simp,fun _ _ _ h=>by simp at h⟩,fun o ho=>j7 o (by simp)⟩
 ·-- there is none
  have cf:Builtin.nextslicecap (len+ys.length) cap*i.bytes≤281474976710656:=growslice_fits (by omega) (by
   rw[qF]
   exact G6 (Hg hlen iY) (by decide))
  have Gx:(vs.take (len*sz)).length=len*i.size:=by rw[kC];simp;omega
  have bq:=run_append_grow_src w t u o.type el i zv ht hi mU (I ⟨q,0,Ek⟩) len cap (vs.take (len*sz)) (run_firstCells_some _ _ _ _ _ _ _ Gx (fun j v hj=>by
   rw[N2]at hj
   split at hj
   ·have h3:=g6 j v hj
    have h4:w.cell? ⟨q,j,Ek⟩=I v:=by
     unfold World.cell?
     rw[g1]
     simp only[G5,Gk,if_false]
     exact h3
    rw[add_lit,Oa]
    exact h4
   ·cases hj)) (a.eval y) ys.length news (kC▸hs) (by omega) (by omega) cf
  rw[←hx]at bq
  have uN:=grownCap_ge w (len+ys.length) cap el
  have gL:zv.cells.size=sz:=by
   obtain⟨_,zv',lz,Gl,_⟩:=uL (C:=C) hz
   have:=lz w
   simp[zeroValue,typeInfo,hi,mU]at this
   subst this
   have:=Gl.length
   simp at this
   omega
  generalize ea:((vs.take (len*sz)++news).toArray++Builtin.zeroCells zv.cells (grownCap w (len+ys.length) cap el-(len+ys.length)))=dm at bq
  generalize Uq:grownCap w (len+ys.length) cap el=gc at bq uN ea
  have ie:Ext w w.drew:=Ext.drew w
  have Ur:Ext w.drew (w.drew.alloc (.cells dm el)):=Ext.alloc _ _ (fun c t fr h=>by cases h;rfl)
  have Gy:(w.drew.alloc (.cells dm el)).heap[w.drew.heap.size]?=I (.cells dm el (0,0)):=by rw[vQ,if_pos rfl]
  have Av:dP C.K (w.drew.alloc (.cells dm el)) w.drew.heap.size sz (xs.take len++ys) gc:=by
   refine dP.grown (dZ:=vs.take (len*sz)) k3 hle qN fk cI hold uN ?_ Gy ?_
   ·rw[←ea]
    have lG:(vs.take (len*sz)).length=len*sz:=by simp;omega
    simp only[Hn,Ho,N5,lG,mV]
    have:(Builtin.zeroCells zv.cells (gc-(len+ys.length))).size=(gc-(len+ys.length))*sz:=by simp[Builtin.zeroCells,gL]
    rw[this,←Hu,←Hu]
    exact Gb _ (by omega)
   ·intro j v hj
    rw[←ea,G3 (by simpa using(Eu.1 hj).1)]
    simpa using hj
  have md:=((m.qM hβ k5).ext ie).ke w.drew.heap.size (.cell bx 0) (Gm _)
  have m1:=md.ext Ur
  obtain⟨Up,t5,k5⟩:=k5
  have m2:=m1.qL (b:=bx) (sz:=sz) (bz:=bz+1) (q:=w.drew.heap.size) (cap:=gc) (xs:=xs.take len++ys) hβ qO Av (.inr ⟨by simp[cr],.inl (G6 m.size ie.size),fun k hk=>by have:=(m.lt k _ hk).1;simp at this,rfl,rfl,⟨dm,el,Gy,by simp,fun _ _ _ h=>by simp at h⟩,fun o _=>m.jK _ ie.size o⟩) ⟨Up,t5,(ie.trans Ur).get k5⟩
  rw[N7]at m2
  refine⟨_,_,ey bq,_,_,aA.gf,m2,(((e.ext ie).fresh (Gm _)).ext Ur).tok,.au _ _ _ r0 _ gc hβ (.inr rfl) (by omega),by simp⟩
theorem jdb (m:av P C ω w0 C0 hp w)(e:ak C ω w w0.heap.size env tmps){bx sz cap xs cells}{te:TypeId}{vs}(hh:hp[bx]?=I .hole)(NW:aK C (xs.flatMap qa.flat) vs)(Aw:zr 0 xs=Ga)(cB:∀x∈xs,x.flat.length=sz)
  (cI:∀v∈vs,v.oneCell'=Ga) (hc:∀(j:Nat) v,vs[j]?=I v→cells[j]?=I v) (hcap:xs.length≤cap) (cf:cap*sz≤cells.size):
  km P C0 w0 C tmps d env ⟨.au bx 0 xs.length,En,Ek,hp.set bx (.vec sz 0 xs)⟩ (.slice (I ⟨w.heap.size,0,Ek⟩) xs.length cap) (w.alloc (.cells cells te)):=by
 obtain⟨m1,e1,Ax⟩:=m.aF e hh (.cells cells te) (fun c t fr h=>by cases h;rfl) .dead (fun C' ω' w' _ hg=>⟨cells,te,hg⟩)
 have Gy:(w.alloc (.cells cells te)).heap[w.heap.size]?=I (.cells cells te (0,0)):=by rw[vQ,if_pos rfl]
 have hβ:(C.box bx w.heap.size).β bx=I w.heap.size:=by simp[aA.box]
 have m2:=m1.qL (b:=bx) (r:=w.heap.size) (sz:=sz) (bz:=0) (q:=w.heap.size) (cap:=cap) (xs:=xs) hβ (fun x hx hr=>by have:=m.gW x hx;omega) ⟨cells,te,vs,Gy,hcap,cf,cB,NW.pure (Un Aw),hc,cI⟩ (.inl rfl) ⟨cells,te,Gy⟩
 rw[N7]at m2
 exact⟨_,ω,aA.le_trans Ax aA.gf,m2,e1.tok,.au _ _ _ w.heap.size w.heap.size cap hβ (.inr rfl) hcap,by simp⟩
theorem jhu (m:av P C ω w0 C0 hp w)(e:ak C ω w w0.heap.size env a.tmps){c}{t u el:TypeId}{ut:TypeDesc}{x y x' y' sz Us b h0 rk ys vy h'}
  (ho:o.op=.call c) (dz:c.callee=.builtin .append) (dL:c.args.toList=[x,y]) (dY:c.argTypes.toList=[t,u]) (ht:P.underlying t=I (.slice el)) (hu:P.underlying u=I ut) (iZ:z7 ut=Ga)
  (hn:yf P el=I sz) (hb:nJ P el=I b) (h1:zp x=I x') (h2:zp y=I y') (e1:zc env x'=I (.list Ga Us [])) (e2:zc env y'=I vy) (cx:ku sz vy=I ys)
  (hlen:ys.length≤1073741824) (bu:ys≠[]) (iY:b≤4096) (Uo:zr 0 ys=Ga) (hzero:∃z,ei P el=I z∧z.length=sz) (cQ:aF h0 hp rk (.vec sz 0 ys)=I h'):
  ∃v w',(execOp a.eval o).run P w=.ok (.value v) w'∧km P C0 w0 C a.tmps d env ⟨.au (h0+rk) 0 ys.length,En,Ek,h'⟩ v w':=by
 obtain⟨hh,rfl⟩:=lE cQ
 have ha:c.args=#[x,y]:=by apply Gf;simpa using dL
 have kB:c.argTypes=#[t,u]:=by apply Gf;simpa using dY
 obtain⟨i,hi,qF⟩:∃i,P.info? el=I i∧i.bytes=b:=by
  unfold nJ at hb
  cases hi:P.info? el with
  |none=>simp[hi]at hb
  |some i=>exact⟨i,rfl,by simpa[hi]using hb⟩
 have kC:i.size=sz:=by
  unfold yf at hn;rw[hi]at hn;simpa using hn
 obtain⟨z,hz,Aq⟩:=hzero
 obtain⟨zv,mU⟩:∃zv,i.zero=I zv:=by
  unfold ei at hz;rw[hi]at hz
  cases hq:i.zero with
  |none=>simp[hq]at hz
  |some v=>exact⟨v,rfl⟩
 have ry:=zq e.bU h2 e2
 obtain⟨news,hs,cH,fk,cI⟩:=NR m hu iZ cx ry
 have ey:∀ {z:Value} {w':World},(Builtin.append_ #[t,u] o.type #[a.eval x,a.eval y]).run P w=.ok z w'→(execOp a.eval o).run P w=.ok (.value z) w':=by
  intro z w' h
  simp[execOp,ho,resolve,dz,ha,kB,invoke,builtin,h]
 have mV:news.length=ys.length*sz:=by rw[cH.length,lB ys fk]
 have hx:a.eval x=.slice Ek 0 0:=by
  rcases(zq e.bU h1 e1).cG with⟨_,_,hx⟩|⟨hf,_⟩|⟨hf,_⟩
  ·exact hx
  ·cases hf
  ·cases hf
 have gN:0<ys.length:=List.length_pos_iff.2 bu
 have cf:Builtin.nextslicecap (0+ys.length) 0*i.bytes≤281474976710656:=growslice_fits (by omega) (by
  rw[qF]
  exact G6 (Hg (by omega) iY) (by decide:2^30*4096≤_))
 have bq:=run_append_grow_src w t u o.type el i zv ht hi mU Ek 0 0 [] (run_firstCells_none _ _ _ _ _) (a.eval y) ys.length news (kC▸hs) (by omega) (by omega) cf
 rw[←hx]at bq
 have uN:=grownCap_ge w (0+ys.length) 0 el
 have gL:zv.cells.size=sz:=by
  obtain⟨_,zv',lz,Gl,_⟩:=uL (C:=C) hz
  have:=lz w
  simp[zeroValue,typeInfo,hi,mU]at this
  subst this
  have:=Gl.length
  simp at this
  omega
 generalize ea:(([]++news).toArray++Builtin.zeroCells zv.cells (grownCap w (0+ys.length) 0 el-(0+ys.length)))=dm at bq
 generalize Uq:grownCap w (0+ys.length) 0 el=gc at bq uN ea
 have ie:Ext w w.drew:=Ext.drew w
 have:=jdb (d:=d) (tmps:=a.tmps) (m.ext ie) (e.ext ie) (te:=el) (cap:=gc) (sz:=sz) (cells:=dm) hh cH Uo fk cI (fun j v hj=>by
  rw[←ea,Hf,G3 (by simpa using(Eu.1 hj).1)]
  simpa using hj) (by omega) (by
   rw[←ea]
   have h5:(Builtin.zeroCells zv.cells (gc-(0+ys.length))).size=(gc-(0+ys.length))*sz:=by simp[Builtin.zeroCells,gL]
   simp only[Hn,Ho,Hf,mV,h5]
   rw[←Hu]
   exact Gb _ (by omega))
 rw[Oa]at bq
 exact⟨_,_,ey bq,this⟩
theorem jgv (m:av P C ω w0 C0 hp w)(e:ak C ω w w0.heap.size env a.tmps){t el:TypeId}{ps len sz h0 rk z fB qs xs h'}
  (ho:o.op=.buildSlice t len ps) (ht:P.underlying t=I (.slice el)) (hn:yf P el=I sz) (hz:ei P el=I z) (hlen:sz*len≤65536) (Uj:0<sz) (gL:z.length=sz)
  (l8:xr ps.toList=I fB) (hq:iG env sz fB=I qs) (hx:lq (Hb len (uK sz z)) qs=I xs) (Aw:zr 0 xs=Ga) (cQ:aF h0 hp rk (.vec sz 0 xs)=I h'):
  ∃v w',(execOp a.eval o).run P w=.ok (.value v) w'∧km P C0 w0 C a.tmps d env ⟨.au (h0+rk) 0 xs.length,En,Ek,h'⟩ v w':=by
 obtain⟨hh,rfl⟩:=lE cQ
 obtain⟨ds,bq,hdr,h1,po,jN,cf⟩:=qor (C:=C) (ω:=ω) (w:=w) (w0:=w0) e ho ht hn hz hlen Uj gL l8 hq hx
 refine⟨_,_,bq,?_⟩
 have ew:=jdb (d:=d) (tmps:=a.tmps) m e (te:=el) (cap:=len) (sz:=sz) (cells:=ds) hh hdr Aw po h1 (by intro j v h;simpa using h) (by omega) cf
 rw[jN]at ew ⊢
 exact ew
theorem jat (m:av P C ω w0 C0 hp w)(e:ak C ω w w0.heap.size env a.tmps){t:TypeId}{z}(ho:o.op=.alloc t)(hz:ei P t=I z):
  ∃v w',(execOp a.eval o).run P w=.ok (.value v) w'∧km P C0 w0 C a.tmps d env ⟨.cE z.length,Ga,Ek,hp⟩ v w':=by
 obtain⟨_,zv,lb,cu,lz⟩:=uL (C:=C) hz
 have hx:Ext w (w.alloc (.cells zv.cells t)):=Ext.alloc w _ (fun c t fr h=>by cases h;rfl)
 have gL:zv.cells.size=z.length:=by have:=cu.length;simpa using this
 refine⟨.pointer (I ⟨w.heap.size,0,Ek⟩),_,by simp[execOp,ho,Instr.alloc,lb,newVar,newRow],C,Abs.cr ω w.heap.size d,aA.le_refl C,(m.ke _ d (Gm _)).ext hx,(e.fresh (Gm _)).ext hx,.cE _ _,fun _=>?_⟩
 refine⟨by simp[Abs.cr],.inl m.size,fun b hb=>by have:=(m.lt b _ hb).1;simp at this,rfl,rfl,⟨zv.cells,t,by rw[vQ,if_pos rfl],by simp;omega,fun _ _ _ h=>by simp at h⟩,fun o _=>m.jK _ (Gm _) o⟩
theorem q88 (m:av P C ω w0 C0 hp w)(e:ak C ω w w0.heap.size env a.tmps){t:TypeId}{x y y' n s v}(ho:o.op=.store t x y)(hn:yf P t=I n)
  (h1:zp x=I (.tmp s)) (h2:zp y=I y') (hl:yd s env=I (.cE n,Ga)) (e2:zc env y'=I v) (vS:v.flat.length=n) (hs:v.flat.all zd=Ga):
  ∃w' C' ω',(execOp a.eval o).run P w=.ok .skip w'∧C.le C'∧av P C' ω' w0 C0 hp w'∧ak C' ω' w' w0.heap.size ((s,.ah v,En)::env) a.tmps:=by
 obtain⟨cv,c1,c2,c3⟩:=e s _ hl
 have gA:a.eval x=cv:=by
  cases x with
  |tmp t'=>
   simp only[zp]at h1
   cases h1
   simp[Act.eval,Hj,c1]
  |const u=>simp only[zp]at h1;split at h1<;>cases h1
  |func f=>simp[zp]at h1
  |global g=>simp[zp]at h1
 cases c2 with
 |cE _ ad=>
  obtain⟨hω,hB,hβ,l7,vR,⟨cells,te,hg,cf,_⟩,hK⟩:=c3 rfl
  obtain⟨r,q,sp⟩:=ad
  simp only at hω hB hβ l7 vR hg cf hK
  subst l7
  subst vR
  have ry:=zq e.bU h2 e2
  have hc:=Ai ry hs
  have cI:=Ak hc (fun y hy=>List.all_eq_true.1 hs y hy)
  have dr:(a.eval y).cells.toList.length=n:=by rw[hc.length,vS]
  have bq:=Uh (P:=P) (t:=t) (off:=0) hn dr hg (by omega) cI
  obtain⟨m',e',hle⟩:=qym (d:=.slot s) m e (r:=r) (q:=0) (news:=(a.eval y).cells.toList) hω hB hβ hg (by omega) (fun o _=>hK o (by simp)) cI
  refine⟨_,_,_,?_,hle,m',?_⟩
  ·simp only[execOp,ho,Instr.storeAt,Sem.run_bind,gA,Instr.sureAddr,Sem.run_pure,Result.andThen_ok,bq]
  ·intro t' z hz
   by_cases lD:t'=s
   ·subst lD
    simp only[yd,Nat.beq_refl,cT,I.injEq]at hz
    subst hz
    exact⟨_,c1,.ah _ _ _ (aA.eJ (fun o _=>hK o (by simp)) hc),by simp⟩
   ·have hb:Gv s t'=En:=by
     cases hb:Gv s t' with
     |false=>rfl
     |true=>exact absurd (Eo hb).symm lD
    simp only[yd,hb,cond_false]at hz
    refine e' t' z ?_
    simp only[gq,hl,yd,hb,cond_false]
    exact hz
end
section
variable {P:Program}{C C0:aA}{ω:Nat→Option Loc}{w w' w0:World}{hp:za}{env:Env}{a:Act}{o:Oper}{tmps:Array Value}{d:Loc}
def jQ (w:World)(r:Nat)(x:Obj):World:={ w with heap:=w.heap.setIfInBounds r x }
theorem Gz {r x}(h:r<w.heap.size):(jQ w r x).heap[r]?=I x:=by
 show(w.heap.setIfInBounds r x)[r]?=_
 rw[Array.getElem?_setIfInBounds_self_of_lt h]
theorem Er {r x}(h:r<w.heap.size)(hx:∀c t fr,x=.cells c t fr→fr=(0,0)):jk w (jQ w r x) r where
 size:=by simp[jQ]
 other k hk:=by
  show(w.heap.setIfInBounds r x)[k]?=_
  rw[Array.getElem?_setIfInBounds_ne (Ne.symm hk)]
 fz c t fr hc:=by
  rw[Gz h]at hc
  exact hx c t fr (I.inj hc)
 os:=rfl
 output:=rfl
theorem xG {r x y}(h:w.heap[r]?=I y)(hy:∀c t f,y≠.cells c t f):(setObj r x).run P w=.ok () (jQ w r x):=by
 cases y with
 |cells c t f=>exact absurd rfl (hy c t f)
 |_=>simp[setObj,Sem.run,jQ,h]
theorem pq {r y}(h:w.heap[r]?=I y)(hy:∀c t f,y≠.cells c t f):(getObj r).run P w=.ok y w:=by
 cases y with
 |cells c t f=>exact absurd rfl (hy c t f)
 |_=>simp[getObj,Sem.run,h]
theorem jc0 (m:av P C ω w0 C0 hp w)(e:ak C ω w w0.heap.size env a.tmps){x x' b pos s}(ho:o.op=.next x Ga)(h1:zp x=I x')(e1:zc env x'=I (.ptr b 0))(gd:hp[b]?=I (.iter s pos)):
  (pos<s.length→∀h',yh hp b (.iter s (pos+(zg s pos).2))=I h'→∃v w',(execOp a.eval o).run P w=.ok (.value v) w'∧km P C0 w0 C a.tmps d env ⟨.ay [.bool Ga,.int .i64 pos,.int .i32 (zg s pos).1],En,Ek,h'⟩ v w') ∧
  (¬pos<s.length→∃v w',(execOp a.eval o).run P w=.ok (.value v) w'∧km P C0 w0 C a.tmps d env ⟨.ay [.bool En],En,Ek,hp⟩ v w'):=by
 obtain⟨r,hr,hq⟩:=(zq e.bU h1 e1).cU
 have ga:w.heap[r]?=I (.stringIter ⟨⟨s⟩⟩ pos):=m.box b _ r gd hr
 have bh:=(m.lt b r hr).1
 have cB:(⟨⟨s⟩⟩:ByteArray).size=s.length:=rfl
 constructor
 ·intro gN h' bn
  obtain rfl:=Ar bn
  have hu:=Er (w:=w) (r:=r) (x:=.stringIter ⟨⟨s⟩⟩ (pos+(zg s pos).2)) bh (by simp)
  refine⟨.tuple #[.bool Ga,goInt pos,.int .i32 (zg s pos).1],jQ w r (.stringIter ⟨⟨s⟩⟩ (pos+(zg s pos).2)),?_,C,ω,aA.le_refl C,m.dv hu hr _ (fun _ _ _ _ _ h=>h) (Gz bh),e.dh hu hr,?_,by simp⟩
  ·have dS:pos<(⟨⟨s⟩⟩:ByteArray).size:=gN
   have bn:=xG (P:=P) (x:=.stringIter ⟨⟨s⟩⟩ (pos+(zg s pos).2)) ga (by simp)
   simp only[execOp,ho,hq,Instr.next,Sem.run_bind,pq ga (by simp),Result.andThen_ok,dS,if_true]
   unfold zg at bn ⊢
   simp only[Sem.run_bind,bn,Result.andThen_ok,Sem.run_pure]
  ·refine .ay _ _ (.cons _ _ _ _ (.bool _) (.cons _ _ _ _ ?_ (.cons _ _ _ _ (.int _ _) .nil)))
   exact .int _ _
 ·intro gN
  have dS:¬pos<(⟨⟨s⟩⟩:ByteArray).size:=gN
  refine⟨.tuple #[.bool En],w,?_,q4e m e (.ay _ _ (.cons _ _ _ _ (.bool _) .nil))⟩
  simp only[execOp,ho,hq,Instr.next,Sem.run_bind,pq ga (by simp),Result.andThen_ok,dS,if_false,Sem.run_pure]
theorem Ut {t:TypeId}{kd}(h:jZ P t=I kd):(kd=.int∧∃k,P.underlying t=I (.int k))∨(kd=.str∧P.underlying t=I .string)∨(kd=.bool∧P.underlying t=I .bool):=by
 unfold jZ at h
 split at h<;>first|cases h|skip
 ·exact .inl ⟨rfl,_,‹_›⟩
 ·exact .inr (.inl ⟨rfl,‹_›⟩)
 ·exact .inr (.inr ⟨rfl,‹_›⟩)
theorem qy3 {t:TypeId}{td:TypeDesc}{kd x y u v b}(ht:P.underlying t=I td)(hk:jZ P t=I kd)(hx:bG C x u)(hy:bG C y v)(h:l4 kd x y=I b):Instr.sameNow td u v=I b∧(b=Ga→x=y∧u=v∧Instr.sameBits 10000 v u=Ga):=by
 rcases Ut hk with⟨rfl,k,hu⟩|⟨rfl,hu⟩|⟨rfl,hu⟩<;>rw[hu]at ht<;>cases ht
 ·cases x<;>cases y<;>simp only[l4]at h<;>first|cases h|skip
  rename_i k1 n1 k2 n2
  have e1:=hx.bJ
  have e2:=hy.bJ
  subst e1;subst e2
  by_cases gO:k1=k2
  ·subst gO
   simp only[decide_true,cT,I.injEq]at h
   refine⟨by simp[Instr.sameNow,h],fun hb=>?_⟩
   subst hb
   have:n1=n2:=by simpa using h
   subst this
   exact⟨rfl,rfl,by simp[Instr.sameBits]⟩
  ·simp[gO]at h
 ·cases x<;>cases y<;>simp only[l4]at h<;>first|cases h|skip
  rename_i s1 s2
  have e1:=hx.bW
  have e2:=hy.bW
  subst e1;subst e2
  have GD:((⟨⟨s1⟩⟩:ByteArray) == ⟨⟨s2⟩⟩)=(s1 == s2):=by
   show(Array.mk s1 == Array.mk s2)=_
   simp
  refine⟨by simp only[Instr.sameNow,GD],fun hb=>?_⟩
  have xH:s1=s2:=by simpa using hb
  subst xH
  refine⟨rfl,rfl,?_⟩
  simp only[Instr.sameBits,GD]
  simp
 ·cases x<;>cases y<;>simp only[l4]at h<;>first|cases h|skip
  rename_i b1 b2
  have e1:=hx.cS
  have e2:=hy.cS
  subst e1;subst e2
  refine⟨by simp[Instr.sameNow],fun hb=>?_⟩
  have xH:b1=b2:=by simpa using hb
  subst xH
  exact⟨rfl,rfl,by simp[Instr.sameBits]⟩
theorem GF {t:TypeId}{td:TypeDesc}{kd k u}(ht:P.underlying t=I td)(hk:jZ P t=I kd)(hx:bG C k u):∀ {es:List (qa×qa)} {ms:List MapEntry} {i:Nat} {r:Option (Nat×qa)},qy C es ms→yq kd k es i=I r →
  match r with
  |none=>Instr.findNow td u ms i=I Ek
  |some (j,v)=>∃m,i≤j∧es[j-i]?=I (k,v)∧ms[j-i]?=I m∧m.key=u∧bG C v m.val∧Instr.findNow td u ms i=I (I (j,m.val))∧Instr.sameBits 10000 m.key u=Ga
 |_,_,i,r,.nil,h=>by
  simp only[yq,I.injEq]at h
  subst h
  simp[Instr.findNow]
 |_,_,i,r,.cons k' v' es m ms h1 h2 h3,h=>by
  simp only[yq]at h
  split at h
  ·rename_i he
   cases h
   obtain⟨q1,q2⟩:=qy3 ht hk hx h1 he
   obtain⟨rfl,rfl,q3⟩:=q2 rfl
   exact⟨m,Gm _,by simp,by simp,rfl,h2,by simp[Instr.findNow,q1],q3⟩
  ·rename_i he
   obtain⟨q1,_⟩:=qy3 ht hk hx h1 he
   have ih:=GF ht hk hx h3 h
   cases r with
   |none=>simp only[Instr.findNow,q1];exact ih
   |some jv=>
    obtain⟨j,v⟩:=jv
    obtain⟨m2,k1,k2,k3,k4,k5,k6,k7⟩:=ih
    refine⟨m2,by omega,?_,?_,k4,k5,by simp only[Instr.findNow,q1];exact k6,k7⟩
    ·rw[show j-i=(j-(i+1))+1 from by omega];simpa using k2
    ·rw[show j-i=(j-(i+1))+1 from by omega];simpa using k3
  ·cases h
theorem Es {t:TypeId}{kd}(hk:jZ P t=I kd)(e:Bool)(v:Value):(Instr.checkKey e 10000 t v).run P w=.ok () w:=by
 rcases Ut hk with⟨_,k,hu⟩|⟨_,hu⟩|⟨_,hu⟩<;>(unfold Instr.checkKey;simp[run_underlying hu])
theorem GG {t:TypeId}{td:TypeDesc}{u ms r}(ht:P.underlying t=I td)(h:Instr.findNow td u ms 0=I r):(Instr.findKey t u ms).run P w=.ok r w:=by
 simp[Instr.findKey,run_underlying ht,h]
theorem Uu {t:TypeId}{kd}(hk:jZ P t=I kd):∃td,P.underlying t=I td:=by
 rcases Ut hk with⟨_,k,hu⟩|⟨_,hu⟩|⟨_,hu⟩<;>exact⟨_,hu⟩
theorem Uv (m:av P C ω w0 C0 hp w)(e:ak C ω w w0.heap.size env a.tmps){t kt el:TypeId}{x y ok x' y' kd zv mv kv r}(ho:o.op=.lookup t x y ok)(ht:P.underlying t=I (.map kt el))(gZ:jZ P kt=I kd)(hz:TI P el=I zv)
  (h1:zp x=I x') (h2:zp y=I y') (e1:zc env x'=I mv) (e2:zc env y'=I kv)
  (hv:(mv=.bM∧r=Ek)∨∃b es,mv=.map b∧hp[b]?=I (.map es)∧yq kd kv es 0=I r):
  Val P C a o w (match r with
   |some (_,v)=>bif ok then .ay [v,.bool Ga]else v
   |none=>bif ok then .ay [zv,.bool En]else zv):=by
 have gM:=zq e.bU h2 e2
 have uP:=zq e.bU h1 e1
 obtain⟨td,qQ⟩:=Uu gZ
 obtain⟨GH,lb,mU⟩:∃v,(∀w,(zeroValue el).run P w=.ok v w)∧bG C zv v:=by
  unfold TI at hz
  split at hz
  ·rename_i i hi
   split at hz
   ·rename_i v hv
    exact⟨v,fun w=>by simp[zeroValue,typeInfo,hi,hv],qus C hz⟩
   ·cases hz
  ·cases hz
 have fin:∀ {ms:List MapEntry} {rv:Option (Nat×Value)},(a.eval x=.map Ek∧ms=[]∨∃q clock,a.eval x=.map (I q)∧w.heap[q]?=I (.map ⟨ms⟩ clock))→Instr.findNow td (a.eval y) ms 0=I rv →
   (execOp a.eval o).run P w=.ok (.value (if ok then .tuple #[(match rv with|some (_,v)=>v|none=>GH),.bool rv.isSome]else(match rv with|some (_,v)=>v|none=>GH))) w:=by
  intro ms rv hm hf
  have uQ:=GG (w:=w) qQ hf
  rcases hm with⟨hm,rfl⟩|⟨q,clock,hm,hq⟩
  ·cases rv<;>simp[execOp,ho,Instr.lookup,run_underlying ht,hm,Es gZ,uQ,lb]
  ·cases rv<;>simp[execOp,ho,Instr.lookup,run_underlying ht,hm,pq hq (by simp),Es gZ,uQ,lb]
 rcases hv with⟨rfl,rfl⟩|⟨b,es,rfl,hb,hfe⟩
 ·generalize l9:a.eval x=mx at uP
  cases uP
  refine⟨_,fin (ms:=[]) (rv:=none) (.inl ⟨l9,rfl⟩) (by simp[Instr.findNow]),?_⟩
  cases ok with
  |true=>exact .ay _ _ (.cons _ _ _ _ mU (.cons _ _ _ _ (.bool _) .nil))
  |false=>exact mU
 ·generalize l9:a.eval x=mx at uP
  cases uP with
  |map _ q oz=>
   obtain⟨bQ,clock,g1,g2⟩:=m.box b _ q hb oz
   have hf:=GF qQ gZ gM g2 hfe
   cases r with
   |none=>
    refine⟨_,fin (ms:=bQ.toList) (rv:=none) (.inr ⟨q,clock,l9,g1⟩) hf,?_⟩
    cases ok with
    |true=>exact .ay _ _ (.cons _ _ _ _ mU (.cons _ _ _ _ (.bool _) .nil))
    |false=>exact mU
   |some jv=>
    obtain⟨j,v⟩:=jv
    obtain⟨me,_,_,_,_,hrv,hfn,_⟩:=hf
    refine⟨_,fin (ms:=bQ.toList) (rv:=I (j,me.val)) (.inr ⟨q,clock,l9,g1⟩) hfn,?_⟩
    cases ok with
    |true=>exact .ay _ _ (.cons _ _ _ _ hrv (.cons _ _ _ _ (.bool _) .nil))
    |false=>exact hrv
theorem qy.ib {k v:qa}:∀ {es:List (qa×qa)} {ms:List MapEntry} {j:Nat} {m:MapEntry},qy C es ms→bG C v m.val→(∀k',(es[j]?).map (·.1)=I k'→bG C k' m.key)→qy C (nG es j v) (ms.set j m)
 |_,_,j,m,.nil,_,_=>by simp[nG];exact .nil
 |_,_,0,m,.cons k' v' es m' ms h1 h2 h3,hv,hk=>by
  simp only[nG,List.set_cons_zero]
  exact .cons _ _ _ _ _ (hk k' (by simp)) hv h3
 |_,_,j+1,m,.cons k' v' es m' ms h1 h2 h3,hv,hk=>by
  simp only[nG,List.set_cons_succ]
  exact .cons _ _ _ _ _ h1 h2 (qy.ib (k:=k) h3 hv (fun k' h=>hk k' (by simpa using h)))
theorem qy.push {k v m es ms}(h:qy C es ms)(hk:bG C k m.key)(hv:bG C v m.val):qy C (es++[(k,v)]) (ms++[m]):=by
 induction h with
 |nil=>exact .cons _ _ _ _ _ hk hv .nil
 |cons k' v' es m' ms h1 h2 _ ih=>exact .cons _ _ _ _ _ h1 h2 ih
theorem qq2 (m:av P C ω w0 C0 hp w)(e:ak C ω w w0.heap.size env a.tmps){t kt el:TypeId}{x y z x' y' z' kd kv v b es h'}(ho:o.op=.mapUpdate t x y z∨o.op=.insert t x y z)(ht:P.underlying t=I (.map kt el))(gZ:jZ P kt=I kd)
  (h1:zp x=I x') (h2:zp y=I y') (h3:zp z=I z') (e1:zc env x'=I (.map b)) (e2:zc env y'=I kv) (e3:zc env z'=I v) (hb:hp[b]?=I (.map es))
  (hv:(∃i u,yq kd kv es 0=I (I (i,u))∧yh hp b (.map (nG es i v))=I h')∨(yq kd kv es 0=I Ek∧yh hp b (.map (es++[(kv,v)]))=I h')):
  ∃w',(execOp a.eval o).run P w=.ok .skip w'∧km P C0 w0 C a.tmps d env ⟨.undef,En,Ek,h'⟩ undef w':=by
 have gM:=zq e.bU h2 e2
 have hvr:=zq e.bU h3 e3
 have uP:=zq e.bU h1 e1
 obtain⟨td,qQ⟩:=Uu gZ
 generalize l9:a.eval x=mx at uP
 cases uP with
 |map _ q oz=>
  obtain⟨bQ,clock,g1,g2⟩:=m.box b _ q hb oz
  have bh:=(m.lt b q oz).1
  have done:∀(Ay:List (qa×qa)) (qR:Array MapEntry) (kG:Nat),qy C Ay qR.toList→yh hp b (.map Ay)=I h' →
    (execOp a.eval o).run P w=.ok .skip (jQ w q (.map qR kG))→∃w',(execOp a.eval o).run P w=.ok .skip w'∧km P C0 w0 C a.tmps d env ⟨.undef,En,Ek,h'⟩ undef w':=by
   intro Ay qR kG vY bn bq
   obtain rfl:=Ar bn
   have hu:=Er (w:=w) (r:=q) (x:=.map qR kG) bh (by simp)
   exact⟨_,bq,C,ω,aA.le_refl C,m.dv hu oz _ (fun _ _ _ _ _ h=>h) ⟨qR,kG,Gz bh,vY⟩,e.dh hu oz,.undef,by simp⟩
  rcases hv with⟨i,u,hf,bn⟩|⟨hf,bn⟩
  ·obtain⟨me,_,k1,k2,k3,k4,k5,k6⟩:=GF qQ gZ gM g2 hf
   have uQ:=GG (w:=w) qQ k5
   simp only[Nat.sub_zero]at k1 k2
   have Uw:bQ[i]?=I me:=by simpa using k2
   have hlen:i<bQ.size:=(G2.1 Uw).1
   refine done (nG es i v) (bQ.modify i fun e=>{ e with key:=a.eval y,val:=a.eval z }) clock ?_ bn ?_
   ·have:(bQ.modify i fun e=>{ e with key:=a.eval y,val:=a.eval z }).toList=bQ.toList.set i { me with key:=a.eval y,val:=a.eval z }:=by
     apply Ob
     intro j
     rw[Gc,Array.getElem?_modify,List.getElem?_set]
     by_cases vT:i=j
     ·subst vT
      have hgi:=(G2.1 Uw).2
      simp[hlen,hgi]
     ·simp[vT]
    rw[this]
    refine qy.ib (k:=kv) g2 hvr (fun k' ez=>?_)
    rw[k1]at ez
    cases ez
    exact gM
   ·have fK:=xG (P:=P) (x:=.map (bQ.modify i fun e=>{ e with key:=a.eval y,val:=a.eval z }) clock) g1 (by simp)
    have GI:∀w:World,(Instr.keyThatStays (((bQ[i]?).map (·.key)).getD (a.eval y)) (a.eval y)).run P w=.ok (a.eval y) w:=by
     intro w
     simp[Instr.keyThatStays,Uw,k6]
    rcases ho with ho|ho<;>simp only[execOp,ho,Instr.mapUpdate,Sem.run_bind,run_underlying ht,Result.andThen_ok,l9,pq g1 (by simp),Es gZ,uQ,GI,fK,Sem.run_pure]
  ·have TU:=GF qQ gZ gM g2 hf
   have uQ:=GG (w:=w) qQ TU
   refine done (es++[(kv,v)]) (bQ.push { key:=a.eval y,val:=a.eval z,born:=clock }) (clock+1) ?_ bn ?_
   ·rw[Array.toList_push]
    exact g2.push gM hvr
   ·have fK:=xG (P:=P) (x:=.map (bQ.push { key:=a.eval y,val:=a.eval z,born:=clock }) (clock+1)) g1 (by simp)
    rcases ho with ho|ho<;>simp only[execOp,ho,Instr.mapUpdate,Sem.run_bind,run_underlying ht,Result.andThen_ok,l9,pq g1 (by simp),Es gZ,uQ,fK,Sem.run_pure]
end
section
variable {P:Program}{C C0:aA}{ω:Nat→Option Loc}{w w' w0:World}{hp:za}{env:Env}{a:Act}{o:Oper}{tmps:Array Value}{d:Loc}
theorem q1w {n sz len cap:Nat}{base:Option Addr}{cs:List Value}(hl:cs.length=n*sz)(h:∀ad,base=I ad→∀j v,cs[j]?=I v→w.cell? (ad.add j)=I v)(hn:base=Ek→n=0):
  (Builtin.firstCells sz n (.slice base len cap)).run P w=.ok cs.toArray w:=by
 cases base with
 |none=>
  have:cs=[]:=by
   have:=hn rfl
   subst this
   exact List.length_eq_zero_iff.1 (by simpa using hl)
  subst this
  exact run_firstCells_none _ _ _ _ _
 |some ad=>exact run_firstCells_some w _ _ _ _ _ cs hl (h ad rfl)
theorem jji (m:av P C ω w0 C0 hp w)(e:ak C ω w w0.heap.size env a.tmps){c:Call}{t:TypeId}{ts:List TypeId}{el:TypeId}{x y x' y' sz b q len n vy us cs dV h'}
  (ho:o.op=.call c) (dz:c.callee=.builtin .copy) (dL:c.args.toList=[x,y]) (dY:c.argTypes.toList=t::ts) (ht:P.underlying t=I (.slice el)) (hn:yf P el=I sz)
  (h1:zp x=I x') (h2:zp y=I y') (e1:zc env x'=I (.ms b q len)) (e2:zc env y'=I vy) (lg:ym hp b=I cs) (cx:zY sz len vy=I (n,us)) (bO:yj cs q us=I dV) (TY:us.length=n*sz) (bn:yh hp b (.cells dV)=I h'):
  ∃u w',(execOp a.eval o).run P w=.ok (.value u) w'∧km P C0 w0 C a.tmps d env ⟨.int .i64 n,En,Ek,h'⟩ u w':=by
 obtain⟨r,cap,hr,hle,hq⟩:=(zq e.bU h1 e1).eu
 have ry:=zq e.bU h2 e2
 unfold yj at bO
 cases hb:(Nat.ble (q+us.length) cs.length&&us.all zd)with
 |false=>simp[hb]at bO
 |true=>
  simp only[hb,cT,I.injEq]at bO
  simp only[Ev]at hb
  subst bO
  -- the source
  obtain⟨news,base,sl,sc,hy,cH,hcells,Ux,qH⟩:∃news base sl sc,a.eval y=.slice base sl sc∧aK C us news∧(∀ad,base=I ad→∀j v,news[j]?=I v→w.cell? (ad.add j)=I v)∧Nat.min sl len=n∧(base=Ek→n=0):=by
   unfold zY at cx
   split at cx
   ·rename_i nn sy ys
    cases hk:(Gv sz sy||ys.isEmpty)with
    |false=>simp[hk]at cx
    |true=>
     simp only[hk,cT,I.injEq,Prod.mk.injEq]at cx
     obtain⟨rfl,rfl⟩:=cx
     generalize a.eval y=vv at ry
     cases ry with
     |iV=>exact⟨[],Ek,0,0,rfl,by simpa using qh.nil,by simp,by simp[Nat.min_def],by simp⟩
     |iW _ ad _=>exact⟨[],I ad,0,0,rfl,by simpa using qh.nil,by simp,by simp,by simp⟩
     |list _ _ r' o' kF hl cL=>
      have hc:bZ C r' ((ys.take len).flatMap qa.flat) o':=bg.cells (bg.take len cL)
      obtain⟨vs,k1,k2⟩:=hc.vals
      refine⟨vs,I ⟨r',o',Ek⟩,ys.length,kF,rfl,k1,?_,rfl,by simp⟩
      intro ad had j v hj
      cases had
      rw[add_lit]
      exact m.know _ _ _ (k2 j v hj)
   ·cases cx
  have cI:=Ak cH (by simpa using hb.2)
  obtain⟨vs,te,hg,cf,m',e'⟩:=q2q m e (vU lg) hr cH cI (Hv hb.1)
  obtain rfl:=Ar bn
  have hfc:=q1w (P:=P) (w:=w) (n:=n) (sz:=sz) (len:=sl) (cap:=sc) (base:=base) (cs:=news) (by rw[cH.length,TY]) hcells qH
  have GJ:=run_storeCells_at (P:=P) r q te news 0 vs w hg (by simpa using cf) cI
  simp only[Nat.add_zero]at GJ
  have bq:(Builtin.copy_ c.argTypes o.type (c.args.map a.eval)).run P w=.ok (goInt n) (w.setRow r (vs.toList.take q++news++vs.toList.drop (q+news.length)).toArray):=by
   have ha:c.args.map a.eval=#[a.eval x,a.eval y]:=by
    apply Gf;simp[dL]
   have hat:c.argTypes[0]?=I t:=by rw[←Gc,dY];rfl
   rw[ha]
   simp only[Builtin.copy_,hat,Ge,G9,Ha,Sem.run_bind,run_underlying ht,Result.andThen_ok,hq,hy,Builtin.lenOf,Sem.run_pure,Ux,iX hn,hfc,GJ]
  refine⟨goInt n,_,?_,C,ω,aA.le_refl C,m',e',?_,by simp⟩
  ·have ha:Array.map a.eval c.args=#[a.eval x,a.eval y]:=by
    apply Gf;simp[dL]
   rw[ha]at bq
   simp[execOp,ho,resolve,dz,ha,invoke,builtin,bq]
  ·exact .int _ _
theorem qy.erase:∀ {es:List (qa×qa)} {ms:List MapEntry} (j:Nat),qy C es ms→qy C (es.eraseIdx j) (ms.eraseIdx j)
 |_,_,j,.nil=>by simpa using qy.nil
 |_,_,0,.cons k' v' es m' ms h1 h2 h3=>by simpa using h3
 |_,_,j+1,.cons k' v' es m' ms h1 h2 h3=>by simpa using .cons _ _ _ _ _ h1 h2 (qy.erase j h3)
theorem q9n (m:av P C ω w0 C0 hp w)(e:ak C ω w w0.heap.size env a.tmps){c}{t kt el:TypeId}{ts x y x' y' kd kv b es h' r}
  (ho:o.op=.call c) (dz:c.callee=.builtin .delete) (dL:c.args.toList=[x,y]) (dY:c.argTypes.toList=t::ts) (ht:P.underlying t=I (.map kt el)) (gZ:jZ P kt=I kd)
  (h1:zp x=I x') (h2:zp y=I y') (e1:zc env x'=I (.map b)) (e2:zc env y'=I kv) (hb:hp[b]?=I (.map es))
  (hf:yq kd kv es 0=I r) (bn:yh hp b (.map (q3w es r))=I h'):
  ∃u w',(execOp a.eval o).run P w=.ok (.value u) w'∧km P C0 w0 C a.tmps d env ⟨.ay [],En,Ek,h'⟩ u w':=by
 have gM:=zq e.bU h2 e2
 have uP:=zq e.bU h1 e1
 obtain⟨td,qQ⟩:=Uu gZ
 have ha:Array.map a.eval c.args=#[a.eval x,a.eval y]:=by
  apply Gf;simp[dL]
 have hat:c.argTypes[0]?=I t:=by rw[←Gc,dY];rfl
 generalize l9:a.eval x=mx at uP
 cases uP with
 |map _ q oz=>
  obtain⟨bQ,clock,g1,g2⟩:=m.box b _ q hb oz
  have bh:=(m.lt b q oz).1
  have done:∀(Ay:List (qa×qa)) (qR:Array MapEntry),qy C Ay qR.toList→yh hp b (.map Ay)=I h' →
    (Builtin.delete_ c.argTypes o.type #[.map (I q),a.eval y]).run P w=.ok (.tuple #[]) (jQ w q (.map qR clock))→∃u w',(execOp a.eval o).run P w=.ok (.value u) w'∧km P C0 w0 C a.tmps d env ⟨.ay [],En,Ek,h'⟩ u w':=by
   intro Ay qR vY bn bq
   obtain rfl:=Ar bn
   have hu:=Er (w:=w) (r:=q) (x:=.map qR clock) bh (by simp)
   refine⟨.tuple #[],_,?_,C,ω,aA.le_refl C,m.dv hu oz _ (fun _ _ _ _ _ h=>h) ⟨qR,clock,Gz bh,vY⟩,e.dh hu oz,.ay _ _ .nil,by simp⟩
   simp[execOp,ho,resolve,dz,ha,l9,invoke,builtin,bq]
  have hfn:=GF qQ gZ gM g2 hf
  cases r with
  |none=>
   have uQ:=GG (w:=w) qQ hfn
   refine done es bQ g2 bn ?_
   have fK:=xG (P:=P) (x:=.map bQ clock) g1 (by simp)
   simp only[Builtin.delete_,hat,Ge,G9,Ha,Sem.run_bind,run_underlying ht,Result.andThen_ok,pq g1 (by simp),Es gZ,uQ,fK,Sem.run_pure]
  |some jv=>
   obtain⟨j,v⟩:=jv
   obtain⟨me,_,k1,k2,k3,k4,k5,k6⟩:=hfn
   have uQ:=GG (w:=w) qQ k5
   refine done (es.eraseIdx j) (bQ.eraseIdxIfInBounds j) ?_ bn ?_
   ·have:(bQ.eraseIdxIfInBounds j).toList=bQ.toList.eraseIdx j:=by simp
    rw[this];exact qy.erase j g2
   ·have fK:=xG (P:=P) (x:=.map (bQ.eraseIdxIfInBounds j) clock) g1 (by simp)
    simp only[Builtin.delete_,hat,Ge,G9,Ha,Sem.run_bind,run_underlying ht,Result.andThen_ok,pq g1 (by simp),Es gZ,uQ,fK,Sem.run_pure]
end
section
variable {P:Program}{p:qr}{xc:XC}{C C0:aA}{ω:Nat→Option Loc}{w w0:World}{hp:za}{env:Env}{a:Act}{o:Oper}{d:Loc}{h:qb}{md:jd}{r h0:Nat}{dst:Option Nat}{al:Option (List Nat)}{cq:qv}{res:qo}
def dW (P:Program)(C C0:aA)(w0:World)(a:Act)(d:Loc)(env:Env)(o:Oper)(w:World)(res:qo):Prop:=
 (∃v w',(execOp a.eval o).run P w=.ok (.value v) w'∧km P C0 w0 C a.tmps d env res v w') ∨
 (∃w',(execOp a.eval o).run P w=.ok .skip w'∧km P C0 w0 C a.tmps d env res undef w') ∨
 (∃f args,(execOp a.eval o).run P w=.ok (.enter f args) w∧CallsIn Fence.wide 0 P f args w fun e w'=>∃v,e=.returned v∧km P C0 w0 C a.tmps d env res v w') ∨
 (∃l f tmps assign body,(execOp a.eval o).run P w=.ok (.round l f tmps assign body) w∧RoundIn Fence.wide 0 P l f tmps assign body w fun e w'=>∃v,e=.returned v∧km P C0 w0 C a.tmps d env res v w')
theorem yc (m:av P C ω w0 C0 hp w)(e:ak C ω w w0.heap.size env a.tmps){x}(hv:Val P C a o w x):dW P C C0 w0 a d env o w ⟨x,En,Ek,hp⟩:=by
 obtain⟨v,h1,h2⟩:=hv
 exact .inl ⟨v,w,h1,q4e m e h2⟩
theorem zt {x}(hs:val hp x=I res):res=⟨x,En,Ek,hp⟩:=by simpa[val]using hs.symm
theorem uR {x}(hs:fX hp x=I res):∃v,x=I v∧res=⟨v,En,Ek,hp⟩:=by
 cases x with
 |none=>simp[fX]at hs
 |some v=>exact⟨v,rfl,by simpa[fX]using hs.symm⟩
theorem NY (m:av P C ω w0 C0 hp w)(e:ak C ω w w0.heap.size env a.tmps){x}(ho:o.op=.move x∨o.op=.assign x){y}(hc:zp x=I y)(hs:zh env hp (.move y)=I res):dW P C C0 w0 a d env o w res:=by
 simp only[zh]at hs
 obtain⟨v,hv,rfl⟩:=uR hs
 exact yc m e (jkc e.bU ho hc hv)
theorem q4f (m:av P C ω w0 C0 hp w)(e:ak C ω w w0.heap.size env a.tmps){s}(ho:o.op=.move (.tmp s)∨o.op=.assign (.tmp s))(hs:zh env hp (.take s)=I res):dW P C C0 w0 a d env o w res:=by
 simp only[zh]at hs
 split at hs
 ·rename_i v ow hl
  cases hs
  exact .inl (jf7 m e ho hl)
 ·cases hs
theorem jf4 (m:av P C ω w0 C0 hp w)(e:ak C ω w w0.heap.size env a.tmps){x}(ho:o.op=.move x)(hc:cw P h md r dst (.move x)=I cq)(hs:j8 p xc h0 al env hp cq=I res):dW P C C0 w0 a d env o w res:=by
 simp only[cw]at hc
 split at hc
 ·rename_i s ht
  cases hc
  unfold q75 at ht
  split at ht
  ·split at ht
   ·cases ht;exact q4f m e (.inl ho) hs
   ·cases ht
  ·cases ht
 ·obtain⟨y,hy,rfl⟩:=Eh.1 hc
  exact NY m e (.inl ho) hy hs
theorem jaj (m:av P C ω w0 C0 hp w)(e:ak C ω w w0.heap.size env a.tmps){x}(ho:o.op=.assign x)(hc:cw P h md r dst (.assign x)=I cq)(hs:j8 p xc h0 al env hp cq=I res):dW P C C0 w0 a d env o w res:=by
 cases x with
 |tmp s=>simp only[cw]at hc;cases hc;exact q4f m e (.inr ho) hs
 |const v=>simp only[cw]at hc;obtain⟨y,hy,rfl⟩:=Eh.1 hc;exact NY m e (.inr ho) hy hs
 |func v=>simp only[cw]at hc;obtain⟨y,hy,rfl⟩:=Eh.1 hc;exact NY m e (.inr ho) hy hs
 |global v=>simp only[cw]at hc;obtain⟨y,hy,rfl⟩:=Eh.1 hc;exact NY m e (.inr ho) hy hs
theorem jgm (m:av P C ω w0 C0 hp w)(e:ak C ω w w0.heap.size env a.tmps){c x y}(ho:o.op=.pick c x y)(hc:cw P h md r dst (.pick c x y)=I cq)(hs:j8 p xc h0 al env hp cq=I res):dW P C C0 w0 a d env o w res:=by
 simp only[cw]at hc
 split at hc
 ·rename_i c' x' y' h1 h2 h3
  cases hc
  simp only[j8,zh]at hs
  split at hs
  ·rename_i b e1
   split at hs
   ·rename_i u v e2 e3
    obtain rfl:=zt hs
    exact yc m e (ji0 e.bU ho h1 h2 h3 e1 e2 e3)
   ·cases hs
  ·cases hs
 ·cases hc
theorem q5u (m:av P C ω w0 C0 hp w)(e:ak C ω w w0.heap.size env a.tmps){x}(ho:o.op=.nilCheck x)(hc:cw P h md r dst (.nilCheck x)=I cq)(hs:j8 p xc h0 al env hp cq=I res):dW P C C0 w0 a d env o w res:=by
 simp only[cw]at hc
 obtain⟨y,hy,rfl⟩:=Eh.1 hc
 simp only[j8,zh]at hs
 split at hs
 ·rename_i b q hv;obtain rfl:=zt hs;exact yc m e (qr1 e.bU ho hy hv (.inl ⟨_,_,rfl⟩))
 ·rename_i z hv;obtain rfl:=zt hs;exact yc m e (qr1 e.bU ho hy hv (.inr ⟨_,rfl⟩))
 ·rename_i f u v hv
  obtain rfl:=zt hs
  have hr:=zq e.bU hy hv
  refine yc m e ⟨a.eval x,?_,hr⟩
  generalize hx:a.eval x=ev at hr
  cases hr with
  |fn f f' u v as bs hf ha hb=>
   simp only[eZ]at hf
   subst hf
   simp[execOp,ho,hx]
 ·cases hs
theorem js7 (m:av P C ω w0 C0 hp w)(e:ak C ω w w0.heap.size env a.tmps){op}{t:TypeId}{x}(ho:o.op=.unOp op t x)(hc:cw P h md r dst (.unOp op t x)=I cq)(hs:j8 p xc h0 al env hp cq=I res):dW P C C0 w0 a d env o w res:=by
 simp only[cw]at hc
 obtain⟨y,hy,rfl⟩:=Eh.1 hc
 simp only[j8,zh]at hs
 split at hs
 ·rename_i v hv
  obtain⟨u,hu,rfl⟩:=uR hs
  exact yc m e (jv4 e.bU ho hy hv hu)
 ·cases hs
theorem ji1 (m:av P C ω w0 C0 hp w)(e:ak C ω w w0.heap.size env a.tmps){s t:TypeId}{x}(ho:o.op=.convert s t x)(hc:cw P h md r dst (.convert s t x)=I cq)(hs:j8 p xc h0 al env hp cq=I res):dW P C C0 w0 a d env o w res:=by
 simp only[cw]at hc
 split at hc
 ·rename_i k0 k u1 u2
  obtain⟨y,hy,rfl⟩:=Eh.1 hc
  simp only[j8,zh]at hs
  split at hs
  ·rename_i k1 n hv
   obtain rfl:=zt hs
   exact yc m e (je4 e.bU ho u1 u2 hy hv)
  ·cases hs
 ·rename_i u1 u2
  obtain⟨y,hy,rfl⟩:=Eh.1 hc
  simp only[j8,zh]at hs
  split at hs
  ·rename_i l hv
   obtain rfl:=zt hs
   exact yc m e (q62 e.bU ho u1 u2 hy hv ⟨_,rfl⟩)
  ·rename_i k1 n hv
   obtain rfl:=zt hs
   exact yc m e (q2y e.bU ho u1 u2 hy hv)
  ·cases hs
 ·rename_i k0 u1 u2
  obtain⟨y,hy,rfl⟩:=Eh.1 hc
  simp only[j8,zh]at hs
  split at hs
  ·rename_i l hv
   obtain rfl:=zt hs
   exact yc m e (q4p e.bU ho u1 u2 hy hv ⟨_,rfl⟩)
  ·rename_i k1 n hv
   obtain rfl:=zt hs
   exact yc m e (q6o e.bU ho u1 u2 hy hv)
  ·cases hs
 ·cases hc
theorem q7d {ag n y}(hs:zh env hp (.eU ag n y)=I res):gU h0 al env hp (.load ag n y)=I res:=by
 simp only[zh]at hs
 simp only[gU]
 split at hs
 ·rename_i v hv
  rw[hv];exact hs
 ·cases hs
theorem q0z {g}:∀ {l:List (String×List Int)} {cs:List Int},F4 P g l=I cs→∃n,(n,cs)∈l∧P.globalNamed n=I g
 | [],_,h=>by simp[F4]at h
 |(n,ds)::l,cs,h=>by
  simp only[F4]at h
  split at h
  ·rename_i hn
   cases h
   exact⟨n,N3 ..,by simpa using hn⟩
  ·obtain⟨n',h1,h2⟩:=q0z h
   exact⟨n',Hx _ h1,h2⟩
theorem jc8 {ns:List Int}:aK C (ns.map (qa.int .i64)) (ns.map (Value.int .i64)):=by
 induction ns with
 |nil=>exact .nil
 |cons n ns ih=>exact .cons _ _ _ _ (.int _ _) ih
theorem jb0 (m:av P C ω w0 C0 hp w)(e:ak C ω w w0.heap.size env a.tmps){t:TypeId}{g}(ho:o.op=.load t (.global g))(hc:cw P h md r dst (.load t (.global g))=I cq)(hs:j8 p xc h0 al env hp cq=I res):dW P C C0 w0 a d env o w res:=by
 have hc:Nz P t g=I cq:=hc
 unfold Nz at hc
 split at hc
 ·rename_i cs n hf hg hn
  split at hc
  ·rename_i hl
   cases hc
   have hl:cs.length=n:=by simpa using hl
   simp only[j8,zh,zc]at hs
   obtain⟨u,hu,rfl⟩:=uR hs
   cases hu
   obtain⟨nm,cR,hnm⟩:=q0z hf
   have ht:=(m.tabs g (.inr (.inr ⟨_,cR,hnm⟩))).2.2.2 _ cR hnm
   have dE:∀j v,(cs.map (Value.int .i64))[j]?=I v→w.cell? ⟨g,0+j,Ek⟩=I v:=by
    intro j v hj
    rw[Hm,Eh]at hj
    obtain⟨i,hi,rfl⟩:=hj
    rw[Oa]
    exact ht j i hi
   have GK:=Gp (P:=P) (w:=w) hg hn (vs:=cs.map (Value.int .i64)) (by simpa using hl) dE
   refine yc m e ⟨.agg ⟨cs.map (Value.int .i64)⟩,?_,.agg _ _ jc8⟩
   have gA:a.eval (.global g)=.pointer (I ⟨g,0,Ek⟩):=rfl
   simp[execOp,ho,Instr.loadAt,gA,Instr.sureAddr,GK]
  ·cases hc
 ·cases hc
theorem jgy (m:av P C ω w0 C0 hp w)(e:ak C ω w w0.heap.size env a.tmps){t:TypeId}{x}(ho:o.op=.load t x)(hc:cw P h md r dst (.load t x)=I cq)(hs:j8 p xc h0 al env hp cq=I res):dW P C C0 w0 a d env o w res:=by
 have key:∀ {ag:Bool} {n:Nat} {y:qp},fh P t=I ag→yf P t=I n→(ag=En→n=1)→zp x=I y→gU h0 al env hp (.load ag n y)=I res→dW P C C0 w0 a d env o w res:=by
  intro ag n y hg hn Gr hy hs
  simp only[gU]at hs
  split at hs
  ·rename_i b q hv
   cases hk:yv h0 al b with
   |false=>simp[hk]at hs
   |true=>
    simp only[hk,cT]at hs
    split at hs
    ·rename_i cs hcs
     split at hs
     ·rename_i us gw
      cases ag with
      |true=>
       simp only[cT]at hs
       obtain rfl:=zt hs
       exact yc m e (Ue m e.bU ho hg hn Gr hy hv (.inl ⟨b,q,cs,us,rfl,hcs,gw,.inl ⟨rfl,rfl⟩⟩))
      |false=>
       simp only[cond_false]at hs
       split at hs
       ·obtain rfl:=zt hs
        exact yc m e (Ue m e.bU ho hg hn Gr hy hv (.inl ⟨b,q,cs,_,rfl,hcs,gw,.inr ⟨rfl,rfl⟩⟩))
       ·cases hs
     ·cases hs
    ·cases hs
  ·rename_i z hv
   cases hk:(Bool.xor ag z.isAgg||!(Gv z.flat.length n))with
   |true=>simp[hk]at hs
   |false=>
    simp only[hk,cond_false]at hs
    obtain rfl:=zt hs
    simp only[Bool.or_eq_false_iff,Bool.not_eq_false']at hk
    exact yc m e (Ue m e.bU ho hg hn Gr hy hv (.inr ⟨rfl,hk.1,Eo hk.2⟩))
  ·rename_i b bz q hv
   cases hk:uE h0 al b with
   |false=>simp[hk]at hs
   |true=>
    simp only[hk,cT]at hs
    split at hs
    ·rename_i sz de xs gd
     cases cV:(Gv bz de&&Nat.ble (q+n) (xs.flatMap qa.flat).length)with
     |false=>rw[cV]at hs;cases hs
     |true=>
      rw[cV]at hs
      simp only[cT]at hs
      simp only[Ev]at cV
      obtain rfl:=Eo cV.1
      have hl:=Hv cV.2
      cases ag with
      |true=>
       simp only[cT]at hs
       obtain rfl:=zt hs
       exact yc m e (q0y m e.bU ho hg hn hy hv gd hl (.inl ⟨rfl,rfl⟩))
      |false=>
       simp only[cond_false]at hs
       split at hs
       ·rename_i z hz
        obtain rfl:=zt hs
        exact yc m e (q0y m e.bU ho hg hn hy hv gd hl (.inr ⟨rfl,hz⟩))
       ·cases hs
    ·cases hs
  ·cases hs
 by_cases hx:∃g,x=.global g
 ·obtain⟨g,rfl⟩:=hx
  exact jb0 m e ho hc hs
 have hc:(match fh P t,yf P t,zp x with
  |some En,I 1,I x=>if(dst.map (h.takes.contains ·)).getD En then I (qv.b9 ((dst.bind fun d=>h.bI.find? fun y=>y.1 == d).map (·.2)) x)else I (bif (dst.map (h.vl.contains ·)).getD En then .eU En 1 x else .load En 1 x)
  |some Ga,I n,I x=>I (bif (dst.map (h.vl.contains ·)).getD En then .eU Ga n x else .load Ga n x)
  |_,_,_=>Ek)=I cq:=by
  cases x with
  |global g=>exact absurd ⟨g,rfl⟩ hx
  |_=>exact hc
 split at hc
 ·rename_i y hg hn hy
  split at hc
  ·cases hc
   simp only[j8,zi]at hs
   split at hs
   ·rename_i b q hv
    generalize (yv h0 al b&&uF _ q)=kk at hs
    cases kk with
    |false=>simp at hs
    |true=>
     simp only[cT]at hs
     split at hs
     ·rename_i cs hcs
      split at hs
      ·rename_i v ow hq
       split at hs
       ·rename_i h' bn
        cases hs
        exact .inl (q4m m e ho hg hy hv hcs hq bn)
       ·cases hs
      ·cases hs
     ·cases hs
   ·cases hs
  ·cases hc
   generalize (dst.map (h.vl.contains ·)).getD En=bb at hs
   cases bb with
   |false=>exact key hg hn (fun _=>rfl) hy hs
   |true=>exact key hg hn (fun _=>rfl) hy (q7d hs)
 ·rename_i n y hg hn hy
  cases hc
  generalize (dst.map (h.vl.contains ·)).getD En=bb at hs
  cases bb with
  |false=>exact key hg hn (by simp) hy hs
  |true=>exact key hg hn (by simp) hy (q7d hs)
 ·cases hc
theorem jb9 (m:av P C ω w0 C0 hp w)(e:ak C ω w w0.heap.size env a.tmps){t:TypeId}{x y}(ho:o.op=.store t x y)(mW:cq.gI=Ek)(hc:cw P h md r dst (.store t x y)=I cq)(hs:j8 p xc h0 al env hp cq=I res):dW P C C0 w0 a d env o w res:=by
 simp only[cw]at hc
 split at hc
 ·rename_i n x' y' hn h1 h2
  cases lG:NA h x' with
  |some s=>rw[lG]at hc;simp only[I.injEq]at hc;subst hc;simp[qv.gI]at mW
  |none=>
  rw[lG]at hc
  simp only[I.injEq]at hc
  subst hc
  simp only[j8,zi]at hs
  split at hs
  ·rename_i b q v e1 e2
   cases hk:yv h0 al b with
   |false=>simp[hk]at hs
   |true=>
    simp only[hk,cT]at hs
    split at hs
    ·rename_i cs hcs
     split at hs
     ·rename_i s cA
      cases hb:(Gv n 1&&v.ct&&Nat.blt q cs.length)with
      |false=>simp[hb]at hs
      |true=>
       simp only[hb,cT]at hs
       simp only[Ev]at hb
       obtain⟨⟨lf,lH⟩,GL⟩:=hb
       obtain rfl:=Eo lf
       split at hs
       ·rename_i h' bn
        cases hs
        exact .inr (.inl (q5w m e ho hn h1 h2 e1 e2 hcs lH (O9.mp GL) cA bn))
       ·cases hs
     ·cases hb:Gv v.flat.length n with
      |false=>simp[hb]at hs
      |true=>
       simp only[hb,cT]at hs
       split at hs
       ·rename_i dV bO
        split at hs
        ·rename_i h' bn
         obtain rfl:=zt hs
         exact .inr (.inl (jcs m e ho hn h1 h2 e1 e2 hcs (Eo hb) bO bn))
        ·cases hs
       ·cases hs
    ·cases hs
  ·cases hs
 ·cases hc
theorem jd4 {P}{t:TypeId}{e:TypeId}(h:TH P t=I e):∃sz,ei P t=I [.bN,.list Ga sz []]:=by
 unfold TH at h
 split at h
 ·split at h
  ·split at h
   ·split at h
    ·rename_i sz h1 h2
     exact⟨_,h2⟩
    ·cases h
   ·cases h
  ·cases h
 ·cases h
theorem jb5 (m:av P C ω w0 C0 hp w)(e:ak C ω w w0.heap.size env a.tmps){t:TypeId}(ho:o.op=.alloc t)(hc:cw P h md r dst (.alloc t)=I cq)(hs:j8 p xc h0 al env hp cq=I res):dW P C C0 w0 a d env o w res:=by
 simp only[cw]at hc
 split at hc
 ·rename_i e' he
  cases hc
  obtain⟨sz,hz⟩:=jd4 he
  simp only[j8,zi]at hs
  split at hs
  ·rename_i h' hn
   obtain rfl:=zt hs
   exact .inl (jny m e ho hz hn)
  ·cases hs
 generalize (dst.map (h.vl.contains ·)).getD En=bb at hc
 cases bb with
 |true=>
  simp only[cT]at hc
  split at hc
  ·rename_i z hz
   cases hb:z.all zd with
   |false=>rw[hb]at hc;cases hc
   |true=>
    rw[hb]at hc
    simp only[cT,I.injEq]at hc
    subst hc
    simp only[j8,zh,I.injEq]at hs
    subst hs
    exact .inl (jat m e ho hz)
  ·cases hc
 |false=>
 simp only[cond_false]at hc
 obtain⟨z,hz,rfl⟩:=Eh.1 hc
 simp only[j8,zi]at hs
 cases hb:z.all zd with
 |false=>simp[hb]at hs
 |true=>
  simp only[hb,cT]at hs
  split at hs
  ·rename_i h' hn
   obtain rfl:=zt hs
   exact .inl (jcr m e ho hz (by simpa using hb) hn)
  ·cases hs
theorem jng (m:av P C ω w0 C0 hp w)(e:ak C ω w w0.heap.size env a.tmps){t:TypeId}{x}(ho:o.op=.box t x)(hc:cw P h md r dst (.box t x)=I cq)(hs:j8 p xc h0 al env hp cq=I res):dW P C C0 w0 a d env o w res:=by
 simp only[cw]at hc
 split at hc
 ·rename_i n x' hn h1
  cases hc
  generalize (dst.map (h.vl.contains ·)).getD En=bb at hs
  cases bb with
  |true=>
   simp only[cT,j8,zh]at hs
   split at hs
   ·rename_i v hv
    cases hb:(Gv v.flat.length n&&v.flat.all zd)with
    |false=>simp[hb]at hs
    |true=>
     simp only[hb,cT]at hs
     simp only[Ev]at hb
     obtain rfl:=zt hs
     exact .inl (jgp m e ho h1 hv hb.2)
   ·cases hs
  |false=>
   simp only[cond_false]at hs
   simp only[j8,zi]at hs
   split at hs
   ·rename_i v hv
    cases hb:(Gv v.flat.length n&&v.flat.all zd)with
    |false=>simp[hb]at hs
    |true=>
     simp only[hb,cT]at hs
     simp only[Ev]at hb
     split at hs
     ·rename_i h' iL
      obtain rfl:=zt hs
      exact .inl (joo m e ho h1 hv hb.2 iL)
     ·cases hs
   ·cases hs
 ·cases hc
theorem q68 (m:av P C ω w0 C0 hp w)(e:ak C ω w w0.heap.size env a.tmps){i x}(ho:o.op=.extract x i)(hc:cw P h md r dst (.extract x i)=I cq)(hs:j8 p xc h0 al env hp cq=I res):dW P C C0 w0 a d env o w res:=by
 simp only[cw]at hc
 obtain⟨y,hy,rfl⟩:=Eh.1 hc
 simp only[j8,zh]at hs
 split at hs
 ·rename_i vs hv
  obtain⟨u,hu,rfl⟩:=uR hs
  exact yc m e (q6s e.bU ho hy hv hu)
 ·cases hs
theorem q3s (m:av P C ω w0 C0 hp w)(e:ak C ω w w0.heap.size env a.tmps){f xs ys}(ho:o.op=.makeFunc f xs ys)(hc:cw P h md r dst (.makeFunc f xs ys)=I cq)(hs:j8 p xc h0 al env hp cq=I res):dW P C C0 w0 a d env o w res:=by
 simp only[cw]at hc
 split at hc
 ·split at hc
  ·rename_i k fA nQ h1 h2
   cases hc
   simp only[j8,zh]at hs
   split at hs
   ·rename_i us vs e1 e2
    obtain rfl:=zt hs
    exact yc m e (jbt e.bU ho h1 h2 e1 e2)
   ·cases hs
  ·cases hc
 ·cases hc
theorem q65 (m:av P C ω w0 C0 hp w)(e:ak C ω w w0.heap.size env a.tmps){t:TypeId}{x}(ho:o.op=.makeMap t x)(hc:cw P h md r dst (.makeMap t x)=I cq)(hs:j8 p xc h0 al env hp cq=I res):dW P C C0 w0 a d env o w res:=by
 cases x with
 |some x=>simp[cw]at hc
 |none=>
  simp only[cw]at hc
  split at hc
  ·cases hc
   simp only[j8,zi]at hs
   split at hs
   ·rename_i h' hn
    obtain rfl:=zt hs
    exact .inl (jds m e ho hn)
   ·cases hs
  ·cases hc
theorem jc1 (m:av P C ω w0 C0 hp w)(e:ak C ω w w0.heap.size env a.tmps){t:TypeId}{x}(ho:o.op=.range t x)(hc:cw P h md r dst (.range t x)=I cq)(hs:j8 p xc h0 al env hp cq=I res):dW P C C0 w0 a d env o w res:=by
 simp only[cw]at hc
 split at hc
 ·rename_i ht
  obtain⟨y,hy,rfl⟩:=Eh.1 hc
  simp only[j8,zi]at hs
  split at hs
  ·rename_i s hv
   split at hs
   ·rename_i h' hn
    obtain rfl:=zt hs
    exact .inl (q8u m e ho ht hy hv hn)
   ·cases hs
  ·cases hs
 ·cases hc
theorem jii (m:av P C ω w0 C0 hp w)(e:ak C ω w w0.heap.size env a.tmps){x b}(ho:o.op=.next x b)(hc:cw P h md r dst (.next x b)=I cq)(hs:j8 p xc h0 al env hp cq=I res):dW P C C0 w0 a d env o w res:=by
 cases b with
 |false=>simp[cw]at hc
 |true=>
  simp only[cw]at hc
  obtain⟨y,hy,rfl⟩:=Eh.1 hc
  simp only[j8,zi]at hs
  split at hs
  ·rename_i b hv
   cases hk:yv h0 al b with
   |false=>simp[hk]at hs
   |true=>
    simp only[hk,cT]at hs
    split at hs
    ·rename_i s pos hb
     obtain⟨k1,k2⟩:=jc0 (d:=d) m e ho hy hv hb
     cases hp:Nat.blt pos s.length with
     |true=>
      simp only[hp,cT]at hs
      split at hs
      ·rename_i h' bn
       obtain rfl:=zt hs
       exact .inl (k1 (O9.mp hp) h' bn)
      ·cases hs
     |false=>
      simp only[hp,cond_false]at hs
      obtain rfl:=zt hs
      exact .inl (k2 (fun h=>by rw[O9.mpr h]at hp;cases hp))
    ·cases hs
  ·cases hs
theorem q8t (m:av P C ω w0 C0 hp w)(e:ak C ω w w0.heap.size env a.tmps){t:TypeId}{x y ok}(ho:o.op=.lookup t x y ok)(hc:cw P h md r dst (.lookup t x y ok)=I cq)(hs:j8 p xc h0 al env hp cq=I res):dW P C C0 w0 a d env o w res:=by
 simp only[cw]at hc
 split at hc
 ·rename_i kt el ht
  split at hc
  ·rename_i kd z x' y' gZ hz h1 h2
   cases hc
   simp only[j8,gU]at hs
   split at hs
   ·rename_i b kv e1 e2
    cases hk:yv h0 al b with
    |false=>simp[hk]at hs
    |true=>
     simp only[hk,cT]at hs
     split at hs
     ·rename_i es hb
      split at hs
      ·rename_i i v hf
       obtain rfl:=zt hs
       exact yc m e (Uv m e ho ht gZ hz h1 h2 e1 e2 (.inr ⟨b,es,rfl,hb,hf⟩))
      ·rename_i hf
       obtain rfl:=zt hs
       exact yc m e (Uv m e ho ht gZ hz h1 h2 e1 e2 (.inr ⟨b,es,rfl,hb,hf⟩))
      ·cases hs
     ·cases hs
   ·rename_i kv e1 e2
    obtain rfl:=zt hs
    exact yc m e (Uv m e ho ht gZ hz h1 h2 e1 e2 (.inl ⟨rfl,rfl⟩))
   ·cases hs
  ·cases hc
 ·cases hc
theorem qq6 (m:av P C ω w0 C0 hp w)(e:ak C ω w w0.heap.size env a.tmps){t:TypeId}{x y z}(ho:o.op=.mapUpdate t x y z∨o.op=.insert t x y z)(hc:cw P h md r dst (.mapUpdate t x y z)=I cq)(hs:j8 p xc h0 al env hp cq=I res):dW P C C0 w0 a d env o w res:=by
 simp only[cw]at hc
 split at hc
 ·rename_i kt el ht
  split at hc
  ·rename_i kd x' y' z' gZ h1 h2 h3
   cases hc
   simp only[j8,zi]at hs
   split at hs
   ·rename_i b kv v e1 e2 e3
    cases hk:yv h0 al b with
    |false=>simp[hk]at hs
    |true=>
     simp only[hk,cT]at hs
     split at hs
     ·rename_i es hb
      split at hs
      ·rename_i i u hf
       split at hs
       ·rename_i h' bn
        obtain rfl:=zt hs
        exact .inr (.inl (qq2 m e ho ht gZ h1 h2 h3 e1 e2 e3 hb (.inl ⟨i,u,hf,bn⟩)))
       ·cases hs
      ·rename_i hf
       cases hl:Nat.ble es.length 1073741824 with
       |false=>simp[hl]at hs
       |true=>
        simp only[hl,cT]at hs
        split at hs
        ·rename_i h' bn
         obtain rfl:=zt hs
         exact .inr (.inl (qq2 m e ho ht gZ h1 h2 h3 e1 e2 e3 hb (.inr ⟨hf,bn⟩)))
        ·cases hs
      ·cases hs
     ·cases hs
   ·cases hs
  ·cases hc
 ·cases hc
end
section
variable {P:Program}{p:qr}{xc:XC}{C C0:aA}{ω:Nat→Option Loc}{w w0:World}{hp:za}{env:Env}{a:Act}{o:Oper}{d:Loc}{h:qb}{md:jd}{r h0:Nat}{dst:Option Nat}{al:Option (List Nat)}{cq:qv}{res:qo}
theorem uS (w:World){d}{t:TypeId}{x y b}{u:TypeDesc}(h:(∃e,u=.slice e∧y=.slice Ek 0 0∧∃q l c,x=.slice q l c∧b=q.isNone)∨(∃e,u=.pointer e∧y=.pointer Ek∧∃q,x=.pointer q∧b=q.isNone) ∨
  (∃k e,u=.map k e∧y=.map Ek∧∃q,x=.map q∧b=q.isNone)∨(∃k e v,u=.func k e v∧y=.nilFunc∧((x=.nilFunc∧b=Ga)∨∃f i j,x=.func f i j∧b=En))) (ht:P.underlying t=I u):
  (Op.equalIn (d+1) t x y).run P w=.ok b w:=by
 rcases h with⟨e,rfl,rfl,q,l,c,rfl,rfl⟩|⟨e,rfl,rfl,q,rfl,rfl⟩|⟨k,e,rfl,rfl,q,rfl,rfl⟩|⟨k,e,v,rfl,rfl,⟨rfl,rfl⟩|⟨f,i,j,rfl,rfl⟩⟩
 ·cases q<;>simp[Op.equalIn,run_underlying ht]
 ·cases q<;>simp[Op.equalIn,run_underlying ht]
 ·cases q<;>simp[Op.equalIn,run_underlying ht]
 ·simp[Op.equalIn,run_underlying ht]
 ·simp[Op.equalIn,run_underlying ht]
theorem uT (m:av P C ω w0 C0 hp w)(e:ak C ω w w0.heap.size env a.tmps){op}{t u:TypeId}{x y neq b c}(ho:o.op=.binOp op t x y u)(hop:op=if neq then .neq else .eql)(hy:a.eval y=c)
  (bu:(∀k n,a.eval x≠.int k n)∧(∀s,a.eval x≠.string s)∧(∀k n,a.eval x≠.float k n)∧(∀k n m,a.eval x≠.complex k n m)) (cK:∀cs,a.eval x≠.agg cs) (T4:a.eval x≠.nilIface)
  (hq:(Op.equal t (a.eval x) c).run P w=.ok b w) {z} (hz:z=bif neq then !b else b):dW P C C0 w0 a d env o w ⟨.bool z,En,Ek,hp⟩:=by
 subst hz
 exact yc m e (jdj ho hop hy bu cK T4 hq)
theorem NZ (m:av P C ω w0 C0 hp w)(e:ak C ω w w0.heap.size env a.tmps){op}{t u:TypeId}{x y y' neq k c}(ho:o.op=.binOp op t x y u)(hop:op=if neq then .neq else .eql)(hx:zp x=I y')(hy:y=.const c)
  (hk:(k=0∧(∃el,P.underlying t=I (.slice el))∧c=.slice Ek 0 0)∨(k=1∧(∃el,P.underlying t=I (.pointer el))∧c=.pointer Ek)∨(k=2∧(∃k v,P.underlying t=I (.map k v))∧c=.map Ek)∨(k=3∧(∃a b c,P.underlying t=I (.func a b c))∧c=.nilFunc))
  (hs:j8 p xc h0 al env hp (.eV k neq y')=I res):dW P C C0 w0 a d env o w res:=by
 have pv:a.eval y=c:=by subst hy;simp[Act.eval]
 rcases hk with⟨rfl,⟨el,ht⟩,rfl⟩|⟨rfl,⟨el,ht⟩,rfl⟩|⟨rfl,⟨k,el,ht⟩,rfl⟩|⟨rfl,⟨k,el,q,ht⟩,rfl⟩
 ·simp only[j8,zh]at hs
  split at hs<;>first|(exfalso;omega)|skip
  ·rename_i n sz xs _ hv
   obtain rfl:=zt hs
   rcases(zq e.bU hx hv).cG with⟨rfl,rfl,h1⟩|⟨h1,r,q,cap,h2,_⟩|⟨h1,_,ad,_,h2⟩
   ·exact uT m e ho hop pv (by simp[h1]) (by simp[h1]) (by simp[h1]) (b:=true) (by rw[h1];exact uS w (d:=9999) (by simp) ht) (by cases neq<;>rfl)
   all_goals
    subst h1
    exact uT m e ho hop pv (by simp[h2]) (by simp[h2]) (by simp[h2]) (b:=false) (by rw[h2];exact uS w (d:=9999) (by simp) ht) (by cases neq<;>rfl)
  ·rename_i b q n _ hv
   obtain rfl:=zt hs
   have hr:=zq e.bU hx hv
   generalize h2:a.eval x=ev at hr
   cases hr with
   |ms b o len r cap hb hl=>
    exact uT m e ho hop pv (by simp[h2]) (by simp[h2]) (by simp[h2]) (b:=false) (by rw[h2];exact uS w (d:=9999) (by simp) ht) (by cases neq<;>rfl)
  ·cases hs
 ·simp only[j8,zh]at hs
  split at hs<;>first|(exfalso;omega)|skip
  ·rename_i _ hv
   obtain rfl:=zt hs
   have hr:=zq e.bU hx hv
   generalize h2:a.eval x=ev at hr
   cases hr
   exact uT m e ho hop pv (by simp[h2]) (by simp[h2]) (by simp[h2]) (b:=true) (by rw[h2];exact uS w (d:=9999) (by simp) ht) (by cases neq<;>rfl)
  ·rename_i _ hv
   obtain rfl:=zt hs
   obtain⟨r,hr,h2⟩:=(zq e.bU hx hv).cU
   exact uT m e ho hop pv (by simp[h2]) (by simp[h2]) (by simp[h2]) (b:=false) (by rw[h2];exact uS w (d:=9999) (by simp) ht) (by cases neq<;>rfl)
  ·rename_i _ hv
   obtain rfl:=zt hs
   obtain⟨r,q,h2,_⟩:=(zq e.bU hx hv).et
   exact uT m e ho hop pv (by simp[h2]) (by simp[h2]) (by simp[h2]) (b:=false) (by rw[h2];exact uS w (d:=9999) (by simp) ht) (by cases neq<;>rfl)
  ·cases hs
 ·simp only[j8,zh]at hs
  split at hs<;>first|(exfalso;omega)|skip
  ·rename_i _ hv
   obtain rfl:=zt hs
   have hr:=zq e.bU hx hv
   generalize h2:a.eval x=ev at hr
   cases hr
   exact uT m e ho hop pv (by simp[h2]) (by simp[h2]) (by simp[h2]) (b:=true) (by rw[h2];exact uS w (d:=9999) (by simp) ht) (by cases neq<;>rfl)
  ·rename_i _ hv
   obtain rfl:=zt hs
   have hr:=zq e.bU hx hv
   generalize h2:a.eval x=ev at hr
   cases hr
   exact uT m e ho hop pv (by simp[h2]) (by simp[h2]) (by simp[h2]) (b:=false) (by rw[h2];exact uS w (d:=9999) (by simp) ht) (by cases neq<;>rfl)
  ·cases hs
 ·simp only[j8,zh]at hs
  split at hs<;>first|(exfalso;omega)|skip
  ·rename_i _ hv
   obtain rfl:=zt hs
   have hr:=zq e.bU hx hv
   generalize h2:a.eval x=ev at hr
   cases hr
   exact uT m e ho hop pv (by simp[h2]) (by simp[h2]) (by simp[h2]) (b:=true) (by rw[h2];exact uS w (d:=9999) (by simp) ht) (by cases neq<;>rfl)
  ·rename_i _ hv
   obtain rfl:=zt hs
   have hr:=zq e.bU hx hv
   generalize h2:a.eval x=ev at hr
   cases hr
   exact uT m e ho hop pv (by simp[h2]) (by simp[h2]) (by simp[h2]) (b:=false) (by rw[h2];exact uS w (d:=9999) (by simp) ht) (by cases neq<;>rfl)
  ·cases hs
theorem Uy (m:av P C ω w0 C0 hp w)(e:ak C ω w w0.heap.size env a.tmps){op}{t u:TypeId}{x y x' y'}(ho:o.op=.binOp op t x y u)(h1:zp x=I x')(h2:zp y=I y')(hs:j8 p xc h0 al env hp (.bin op x' y')=I res):dW P C C0 w0 a d env o w res:=by
 simp only[j8,zh]at hs
 split at hs
 ·rename_i u v e1 e2
  obtain⟨z,hz,rfl⟩:=uR hs
  exact yc m e (joy e.bU ho h1 h2 e1 e2 hz)
 ·cases hs
theorem qxw (m:av P C ω w0 C0 hp w)(e:ak C ω w w0.heap.size env a.tmps){op}{t u:TypeId}{x y neq}(ho:o.op=.binOp op t x y u)(hop:op=if neq then .neq else .eql)(hc:Ee P op neq t x y=I cq)(hs:j8 p xc h0 al env hp cq=I res):dW P C C0 w0 a d env o w res:=by
 have dA:Ee P op neq t x y=I cq:=hc
 unfold Ee at dA
 have eqs:∀ {ks:List Kd} {x' y':qp},fh P t=I Ga→P.eqGuardType P.depth t=En→uH P Ny t=I ks→zp x=I x'→zp y=I y'→j8 p xc h0 al env hp (.eqs ks neq x' y')=I res→dW P C C0 w0 a d env o w res:=by
  intro ks x' y' cK hg hk h1 h2 hs
  simp only[j8,zh]at hs
  split at hs
  ·rename_i u v e1 e2
   cases hb:(Gv u.length ks.length&&Gv v.length ks.length)with
   |false=>simp[hb]at hs
   |true=>
    simp only[hb,cT]at hs
    simp only[Ev]at hb
    split at hs
    ·rename_i b hq
     obtain rfl:=zt hs
     exact yc m e (jnh e.bU ho hop h1 h2 e1 e2 hg hk cK (Eo hb.1) (Eo hb.2) hq)
    ·cases hs
  ·cases hs
 split at dA
 ·split at dA
  ·rename_i h1 h2;cases dA;exact Uy m e ho h1 h2 hs
  ·cases dA
 ·split at dA
  ·rename_i h1 h2;cases dA;exact Uy m e ho h1 h2 hs
  ·cases dA
 ·rename_i ht
  split at dA
  ·rename_i h1 h2
   cases dA
   simp only[j8,zh]at hs
   split at hs
   ·rename_i u v e1 e2
    obtain rfl:=zt hs
    exact yc m e (jn8 e.bU ho hop h1 h2 e1 e2 ht)
   ·cases hs
  ·cases dA
 ·rename_i fs ht
  split at dA
  ·rename_i hg
   split at dA
   ·rename_i ks x' y' hk h1 h2;cases dA;exact eqs (by simp[fh,ht]) (by simpa using hg) hk h1 h2 hs
   ·cases dA
  ·cases dA
 ·rename_i fs _ ht
  split at dA
  ·rename_i hg
   split at dA
   ·rename_i ks x' y' hk h1 h2;cases dA;exact eqs (by simp[fh,ht]) (by simpa using hg) hk h1 h2 hs
   ·cases dA
  ·cases dA
 ·rename_i el ht
  split at dA
  ·obtain⟨x',hx,rfl⟩:=Eh.1 dA
   exact NZ m e ho hop hx rfl (.inl ⟨rfl,⟨el,ht⟩,rfl⟩) hs
  ·cases dA
 ·rename_i el ht
  split at dA
  ·obtain⟨x',hx,rfl⟩:=Eh.1 dA
   exact NZ m e ho hop hx rfl (.inr (.inl ⟨rfl,⟨el,ht⟩,rfl⟩)) hs
  ·cases dA
 ·rename_i el _ ht
  split at dA
  ·obtain⟨x',hx,rfl⟩:=Eh.1 dA
   exact NZ m e ho hop hx rfl (.inr (.inr (.inl ⟨rfl,⟨_,_,ht⟩,rfl⟩))) hs
  ·cases dA
 ·rename_i el _ _ ht
  split at dA
  ·obtain⟨x',hx,rfl⟩:=Eh.1 dA
   exact NZ m e ho hop hx rfl (.inr (.inr (.inr ⟨rfl,⟨_,_,_,ht⟩,rfl⟩))) hs
  ·cases dA
 ·cases dA
theorem jo4 (m:av P C ω w0 C0 hp w)(e:ak C ω w w0.heap.size env a.tmps){op}{t u:TypeId}{x y}(ho:o.op=.binOp op t x y u)(hc:cw P h md r dst (.binOp op t x y u)=I cq)(hs:j8 p xc h0 al env hp cq=I res):dW P C C0 w0 a d env o w res:=by
 simp only[cw]at hc
 unfold TJ at hc
 split at hc
 ·exact qxw (neq:=false) m e ho rfl hc hs
 ·exact qxw (neq:=true) m e ho rfl hc hs
 ·split at hc
  ·rename_i h1 h2;cases hc;exact Uy m e ho h1 h2 hs
  ·cases hc
end
end Go.Abs
