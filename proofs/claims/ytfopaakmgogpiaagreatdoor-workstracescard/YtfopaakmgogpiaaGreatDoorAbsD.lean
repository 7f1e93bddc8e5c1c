/- Slices that are written later. -/
import Derived.Test.YtfopaakmgogpiaaGreatDoorAbsC
set_option linter.unusedVariables false
set_option linter.unusedSimpArgs false
open Option renaming some→I,map_eq_some_iff→Eh,none→El,isSome_none→Gx
open Bool renaming false→En,and_eq_true→E5,true→E6,false_eq_true→Gk
open Nat renaming eq_of_beq_eq_true→Eo,mul_le_mul_right→E7,le_refl→Gl,beq→Gm,le_trans→Ha,mul_le_mul→I6,add_mul→Og,le_of_ble_eq_true→Oh,zero_add→Sx,blt_eq→Te
open List renaming getElem?_eq_some_iff→Ev,getElem?_toArray→Gb,getElem?_append_left→Gh,getElem?_eq_getElem→Gi,getElem?_cons_zero→Hb,getElem?_cons_succ→Ht,replicate→Hv,getElem?_set_self→If,mem_of_getElem?→Ip,nil_append→Iu,getElem?_append_right→I9,getElem?_map→Ml,size_toArray→M2,flatMap_cons→Nr,getElem?_take_of_lt→Od,getElem?_eq_none→Oe,getElem?_set_ne→Oi,mem_cons_of_mem→Oj,mem_of_mem_take→Ok,getElem?_take→R2,mem_cons_self→Si,length_append→Sp,set_set→St,ext_getElem?→Sz,append_assoc→S5,length_take→S6,length_set→Tb,mem_append→Tc
open Array renaming getElem?_toList→Ga,ext'→Gc,getElem?_eq_some_iff→Gn,getElem?_append_left→Gp,getD_eq_getD_getElem?→I7,range→I8,size_append→M1
namespace Go.Abs
section
variable {P:Program}{C C0:ax}{ω:Nat→Option Loc}{w w' w0:World}{hp:j8}{env:Env}{a:Act}{o:Oper}{tmps:Array Value}{d:Loc}
theorem qym (m:av P C ω w0 C0 hp w)(e:ai C ω w w0.heap.size env a.tmps){t el:TypeId}{x y:Operand}{x' y':qf}{n sz b h0 rk:Nat}{z:List qa}{h':j8}
  (ho:o.op=.makeSlice t x y) (ht:P.underlying t=I (.slice el)) (hn:yh P el=I sz) (hb:nq P el=I b) (hz:ek P el=I z) (SE:0<sz) (gP:z.length=sz)
  (h1:zr x=I x') (h2:zr y=I y') (e1:zd env x'=I (.int .i64 (n:Int))) (e2:zd env y'=I (.int .i64 (n:Int))) (hle:n≤1073741824) (iU:b≤4096)
  (cQ:aI h0 hp rk (.cells (cellsOf (Hv n z).flatten))=I h'):
  ∃v w',(execOp a.eval o).run P w=.ok (.value v) w'∧kj P C0 w0 C a.tmps d env ⟨.ms (h0+rk) 0 n,En,El,h'⟩ v w':=by
 obtain⟨hh,rfl⟩:=lu cQ
 obtain⟨pJ,zv,kQ,cw,lj⟩:=uo (C:=C) hz
 have mH:zv.cells.toList.length=sz:=by rw[cw.length,gP]
 have jF:((I8 (n*sz)).map (fun i=>zv.cells[i % zv.cells.size]!)).toList=(Hv n zv.cells.toList).flatten:=by
  have:=Ms mH SE n
  simpa using this
 have r1:=(zt e.bU h1 e1).bF
 have r2:=(zt e.bU h2 e2).bF
 have fI:aK C (Hv n z).flatten ((I8 (n*sz)).map (fun i=>zv.cells[i % zv.cells.size]!)).toList:=by
  rw[jF];exact cw.replicate n
 obtain⟨i,hi,pN⟩:∃i,P.info? el=I i∧i.bytes=b:=by
  unfold nq at hb
  cases hi:P.info? el with
  |none=>simp[hi]at hb
  |some i=>exact⟨i,rfl,by simpa[hi]using hb⟩
 have jX:i.size=sz:=by
  unfold yh at hn
  rw[hi]at hn
  simpa using hn
 have pO:IntKind.i64.wrap (n:Int)=n:=by
  rw[←zI];unfold j9
  have:pE .i64 (n:Int)=E6:=by simp[pE];exact Ha hle (by decide)
  rw[this];rfl
 have zG:b*n≤281474976710656:=Ha (I6 iU hle) (by decide)
 obtain⟨m',e',cz⟩:=m.aI e hh (.cells ((I8 (n*sz)).map (fun i=>zv.cells[i % zv.cells.size]!)) el) (fun c t fr h=>by cases h;rfl) (.cells (cellsOf (Hv n z).flatten))
  (SA fI (by
   intro x h
   rw[List.mem_flatten]at h
   obtain⟨l,q1,q2⟩:=h
   obtain⟨_,rfl⟩:=List.mem_replicate.1 q1
   exact pJ x q2) (by intro j v h;rw[Ga]at h;exact h) (by have:=fI.length;simp at this;simp;omega))
 refine⟨.slice (I ⟨w.heap.size,0,El⟩) n n,w.alloc (.cells ((I8 (n*sz)).map (fun i=>zv.cells[i % zv.cells.size]!)) el),?_,_,_,cz,m',e',.ms _ _ _ _ _ (by simp[ax.box]) (Gl _),by simp⟩
 have c1:¬((b:Int)*(n:Int) > 2^48):=by
  have h1:((b*n:Nat):Int)≤281474976710656:=Int.ofNat_le.2 zG
  rw[Int.natCast_mul]at h1
  have h2:(2:Int)^48=281474976710656:=by decide
  rw[h2];omega
 have c2:¬((n:Int)<0):=by omega
 have hr:I8 0=#[]:=rfl
 simp only[execOp,ho,Instr.makeSlice,Sem.run_bind,run_underlying ht,r1,r2,asInt,asIntOf,Sem.run_pure,Result.andThen_ok,typeInfo,run_program,hi,pN,pO,c2,c1,decide_false,Bool.or_false,Gk,if_false,Int.lt_irrefl,gt_iff_lt,run_askRoom,Int.toNat_natCast,iT hn,newRow]
 by_cases zJ:n=0
 ·subst zJ
  simp[hr]
 ·have br:¬(n*sz=0):=by
   intro h
   rcases Nat.mul_eq_zero.1 h with h|h<;>omega
  simp[br,kQ]
theorem jz5 (m:av P C ω w0 C0 hp w)(e:ai C ω w w0.heap.size env tmps){b r s:Nat}{cells:Array Value}{t:TypeId}{us:List qa}{news:List Value}(hh:hp[b]?=I .hole)(hω:ω r=I (.slot s))(hB:w0.heap.size≤r∨C.W r)(hβ:∀b,C.β b≠I r)
  (hg:w.heap[r]?=I (.cells cells t (0,0))) (hK:∀o,C.K r o=El) (cf:news.length≤cells.size) (fT:aK C us news) (cI:∀v∈news,v.oneCell'=E6):
  av P (C.box b r) ω w0 C0 (hp.set b (.cells (cellsOf us))) (w.setRow r (cells.toList.take 0++news++cells.toList.drop (0+news.length)).toArray) ∧
  ai (C.box b r) ω (w.setRow r (cells.toList.take 0++news++cells.toList.drop (0+news.length)).toArray) w0.heap.size (gy env (I s)) tmps∧C.le (C.box b r):=by
 have hu:=Ff hg (cells.toList.take 0++news++cells.toList.drop (0+news.length)).toArray
 have lv:=setRow_heap w r cells (cells.toList.take 0++news++cells.toList.drop (0+news.length)).toArray t (0,0) hg
 generalize w.setRow r (cells.toList.take 0++news++cells.toList.drop (0+news.length)).toArray=w' at hu lv
 have SF:=Fs m hh
 have hle:=ax.jZ (C:=C) (r:=r) SF
 have aY:b<hp.length:=(Ev.1 hh).1
 have SG:r<w.heap.size:=(Gn.1 hg).1
 have cB:∀ℓ x v,ℓ≠.slot s→aC C ω w w0.heap.size ℓ x v→aC (C.box b r) ω w' w0.heap.size ℓ x v:=by
  intro ℓ x v hℓ ho
  have br:ω r≠I ℓ:=by rw[hω];intro h;exact hℓ (I.inj h).symm
  exact(ho.box (.inr br)).ie hu br
 refine⟨?_,?_,hle⟩
 ·refine { base:=m.base,know:=?_,cP:=m.cP,apart:=?_,inj:=?_,lt:=?_,size:=?_,frame:=?_,eQ:=?_,os:=hu.os.trans m.os,output:=hu.output.trans m.output,fresh:=?_,grown:=ax.le_trans m.grown hle,old:=m.old,box:=?_,hH:=fun q hq=>by rw[hu.size];exact m.hH q hq }
  ·intro k q v hk
   have gQ:k≠r:=fun h=>by
    have eC:C.K k q=I v:=hk
    rw[h,hK q]at eC;cases eC
   have hc:=m.know _ _ _ hk
   simp only[World.cell?]at hc ⊢
   rw[hu.other k gQ];exact hc
  ·intro k q p hk
   simp only[ax.box]at hk
   split at hk
   ·cases hk;exact hK p
   ·exact m.apart k q p hk
  ·intro k k' q hk eC
   simp only[ax.box]at hk eC
   split at hk<;>split at eC
   ·rename_i h1 h2;rw[h1,h2]
   ·cases hk;exact absurd eC (hβ k')
   ·cases eC;exact absurd hk (hβ k)
   ·exact m.inj k k' q hk eC
  ·intro k q hk
   rw[Tb,hu.size]
   simp only[ax.box]at hk
   split at hk
   ·rename_i h1;cases hk;subst h1;exact⟨SG,aY⟩
   ·exact m.lt k q hk
  ·rw[hu.size];exact m.size
  ·intro k hk hn hw
   have gQ:k≠r:=fun h=>by
    subst h
    rcases hB with h|h
    ·omega
    ·rw[m.grown.w]at h;exact hw h
   rw[hu.other k gQ];exact m.frame k hk hn hw
  ·intro k hk
   have gQ:k≠r:=fun h=>by
    subst h
    have:=m.eQ k hk
    rw[hg]at this;cases this
   rw[hu.other k gQ];exact m.eQ k hk
  ·intro k q hk
   simp only[ax.box]at hk
   split at hk
   ·cases hk
    rcases hB with h|h
    ·exact .inr (.inl h)
    ·rw[m.grown.w]at h;exact .inr (.inr h)
   ·exact m.fresh k q hk
  ·intro k x q hx hk
   simp only[ax.box]at hk
   split at hk
   ·rename_i h1
    subst h1
    cases hk
    rw[If aY]at hx
    cases hx
    have mK:=fT.length
    refine⟨_,t,lv,by simp[cellsOf];omega,?_⟩
    intro j c hc
    simp only[cellsOf,Ml,Eh]at hc
    obtain⟨x,hx,rfl⟩:=hc
    obtain⟨v,h1,h2⟩:=fT.get hx
    have hj:j<news.length:=(Ev.1 h1).1
    refine⟨v,?_,cI v (Ip h1),qp.mono hle h2,by simp⟩
    simp only[List.take_zero,Iu,Gb]
    rw[Gh hj];exact h1
   ·rename_i h1
    rw[Oi (Ne.symm h1)]at hx
    have br:q≠r:=fun h=>hβ k (h▸hk)
    have kT:bm P C ω w' w0.heap.size k q x:=(m.box k x q hx hk).ie hu br (fun j=>by rw[hω];simp)
    exact kT.mono hle fun j y v ho=>ho.box (.inr (by rw[hω];simp))
 ·intro t' x hx
  by_cases lq:t'=s
  ·subst lq
   simp only[gy]at hx
   cases hl:ye t' env with
   |none=>rw[hl]at hx;simp only[hl]at hx;cases hx
   |some y=>
    rw[hl]at hx
    simp only[ye,Nat.beq_refl,cT]at hx
    cases hx
    obtain⟨v,h2,h3,_⟩:=e t' y hl
    exact⟨v,h2,qp.mono hle h3,by simp⟩
  ·have eM:ye t' env=I x:=by
    simp only[gy]at hx
    cases hl:ye s env with
    |none=>rw[hl]at hx;exact hx
    |some y=>
     rw[hl]at hx
     simp only[ye]at hx
     have:Gm s t'=En:=by
      cases hb:Gm s t' with
      |false=>rfl
      |true=>exact absurd (Eo hb).symm lq
     rw[this]at hx
     exact hx
   obtain⟨v,h2,h3,h4⟩:=e t' x eM
   exact⟨v,h2,qp.mono hle h3,fun h=>cB _ _ _ (by simp[lq]) (h4 h)⟩
theorem q5m {xs:List qa}{vs:List Value}{t:TypeId}{B b r:Nat}{cells:Array Value}(hr:aK C xs vs)(cI:∀v∈vs,v.oneCell'=E6)(hv:∀(j:Nat) v,vs[j]?=I v→cells[j]?=I v)(hl:xs.length≤cells.size):
  ∀C' ω' w',C.le C'→w'.heap[r]?=I (.cells cells t (0,0))→bm P C' ω' w' B b r (.cells (cellsOf xs)):=by
 intro C' ω' w' hle hg
 refine⟨cells,t,hg,by simpa[cellsOf]using hl,?_⟩
 intro j c hc
 simp only[cellsOf,Ml,Eh]at hc
 obtain⟨x,hx,rfl⟩:=hc
 obtain⟨v,h1,h2⟩:=hr.get hx
 exact⟨v,hv j v h1,cI v (Ip h1),qp.mono hle h2,by simp⟩
theorem q0i (m:av P C ω w0 C0 hp w)(e:ai C ω w w0.heap.size env a.tmps){c:Call}{t u el:TypeId}{ut:TypeDesc}{x y:Operand}{x' y':qf}{sz b h0 rk:Nat}{n:Bool}{cK:Nat}{ys:List qa}{vy:qa}{h':j8}
  (ho:o.op=.call c) (dA:c.callee=.builtin .append) (dL:c.args.toList=[x,y]) (ea:c.argTypes.toList=[t,u]) (ht:P.underlying t=I (.slice el)) (hu:P.underlying u=I ut) (iV:zB ut=E6)
  (hn:yh P el=I sz) (hb:nq P el=I b) (h1:zr x=I x') (h2:zr y=I y') (e1:zd env x'=I (.list n cK [])) (e2:zd env y'=I vy) (cy:kr sz vy=I ys)
  (cB:(km env x').isSome=E6) (SH:n=En) (hlen:ys.length≤1073741824) (iU:b≤4096) (hzero:∃z,ek P el=I z∧z.length=sz) (zQ:sz=cK)
  (cQ:aI h0 hp rk (.cells (cellsOf (ys.flatMap qa.flat)))=I h'):
  ∃v w',(execOp a.eval o).run P w=.ok (.value v) w'∧kj P C0 w0 C a.tmps d env ⟨.ms (h0+rk) 0 ys.length,En,km env x',h'⟩ v w':=by
 obtain⟨hh,rfl⟩:=lu cQ
 subst SH
 subst zQ
 have ha:c.args=#[x,y]:=by apply Gc;simpa using dL
 have jW:c.argTypes=#[t,u]:=by apply Gc;simpa using ea
 obtain⟨i,hi,pN⟩:∃i,P.info? el=I i∧i.bytes=b:=by
  unfold nq at hb
  cases hi:P.info? el with
  |none=>simp[hi]at hb
  |some i=>exact⟨i,rfl,by simpa[hi]using hb⟩
 have jX:i.size=sz:=by
  unfold yh at hn;rw[hi]at hn;simpa using hn
 obtain⟨z,hz,zR⟩:=hzero
 obtain⟨zv,mJ⟩:∃zv,i.zero=I zv:=by
  unfold ek at hz;rw[hi]at hz
  cases hq:i.zero with
  |none=>simp[hq]at hz
  |some v=>exact⟨v,rfl⟩
 have rx:=zt e.bU h1 e1
 have ry:=zt e.bU h2 e2
 obtain⟨news,hs,cH,fj,cI⟩:=Mt m hu iV cy ry
 have eA:∀ {z:Value} {w':World},(Builtin.append_ #[t,u] o.type #[a.eval x,a.eval y]).run P w=.ok z w'→(execOp a.eval o).run P w=.ok (.value z) w':=by
  intro z w' h
  simp[execOp,ho,resolve,dA,ha,jW,invoke,builtin,h]
 have mK:news.length=ys.length*sz:=by rw[cH.length,lm ys fj]
 rcases rx.cG with⟨hh1,_,_⟩|⟨_,r,q,cap,hx,hle,cM⟩|⟨_,_,ad,lS,hx⟩
 rotate_right
 ·exact absurd (q1v e h1 cB e1 hx) lS
 ·cases hh1
 ·obtain⟨s,gB⟩:=Option.isSome_iff_exists.1 cB
  obtain⟨eM,v0,hl⟩:=Fi gB
  have iJ:v0=.list En sz []:=by
   subst eM
   simp only[zd,hl]at e1
   exact I.inj e1
  subst iJ
  obtain⟨cv,xg,Mu,zP⟩:=e s _ hl
  have n8:cv=.slice (I ⟨r,q,El⟩) 0 cap:=by
   have ig:zr x=I (.tmp s):=by rw[h1,eM]
   cases x with
   |tmp t'=>
    simp only[zr]at ig
    cases ig
    have:a.eval (.tmp s)=cv:=by simp[Act.eval,I7,xg]
    rw[←this,hx];rfl
   |const u=>simp only[zr]at ig;split at ig<;>cases ig
   |func f=>simp[zr]at ig
   |global g=>simp[zr]at ig
  subst n8
  obtain⟨hω,hB,hβ,_,Mv,⟨cells,te,hg,cf⟩,hK⟩:=zP rfl
  simp only at hω hB hβ hg cf hK Mv
  subst Mv
  simp only[List.length_nil]at hx
  by_cases dU:0+ys.length≤cap
  ·have ga:(0+ys.length)*sz≤cap*sz:=E7 _ dU
   have bn:=Sw (P:=P) (w:=w) (ty:=o.type) ht hi r 0 0 cap (a.eval y) ys.length news (jX▸hs) dU hg (by rw[mK];simp at ga cf ⊢;omega)
   rw[←hx]at bn
   have e0:0+0*i.size=0:=by simp
   rw[e0]at bn
   obtain⟨m',e',cz⟩:=jz5 (tmps:=a.tmps) m e hh hω hB hβ hg (fun o=>hK o (by simp)) (by rw[mK];simp at ga cf ⊢;omega) cH cI
   rw[gB]
   refine⟨_,_,eA bn,_,_,cz,m',e',?_,by simp⟩
   have:=qp.ms (C:=C.box (h0+rk) r) (h0+rk) 0 ys.length r cap (by simp[ax.box]) (by omega)
   simpa using this
  ·have Fw:Builtin.nextslicecap (0+ys.length) cap*i.bytes≤281474976710656:=growslice_fits (by omega) (by
    rw[pN]
    exact Ha (I6 (by omega) iU) (by decide:2^30*4096≤_))
   have bn:=run_append_grow_src w t u o.type el i zv ht hi mJ (I ⟨r,0,El⟩) 0 cap [] (run_firstCells_some _ _ _ _ _ _ [] (by simp) (by simp)) (a.eval y) ys.length news (jX▸hs) (by omega) (by omega) Fw
   rw[←hx]at bn
   have ur:=grownCap_ge w (0+ys.length) cap el
   have ij:Ext w w.drew:=Ext.drew w
   obtain⟨m',e',cz⟩:=(m.ext ij).aI (e.ext ij) hh (.cells (([]++news).toArray++Builtin.zeroCells zv.cells (grownCap w (0+ys.length) cap el-(0+ys.length))) el) (fun c t fr h=>by cases h;rfl) (.cells (cellsOf (ys.flatMap qa.flat)))
    (q5m cH cI (by
     intro j v hj
     rw[Gp (by simpa using(Ev.1 hj).1)]
     simpa using hj) (by have h5:=cH.length;rw[M1];simp only[Iu,M2];omega))
   refine⟨_,_,eA bn,_,_,cz,m',e'.strip _,?_,by simp⟩
   have:=qp.ms (C:=C.box (h0+rk) w.drew.heap.size) (h0+rk) 0 ys.length w.drew.heap.size (grownCap w (0+ys.length) cap el) (by simp[ax.box]) (by omega)
   simpa using this
end
section
variable {P:Program}{C C0:ax}{ω:Nat→Option Loc}{w w' w0:World}{hp:j8}{env:Env}{a:Act}{o:Oper}{tmps:Array Value}{d:Loc}
theorem Mx {b bu len:Nat}{v:Value}(h:bC C (.au b bu len) v):∃r0 r cap,C.β b=I r0∧C.T (r0,bu,r,cap)∧len≤cap∧v=.slice (I ⟨r,0,El⟩) len cap:=by
 cases h with
 |au _ _ _ r0 r cap hb ht hl=>exact⟨r0,r,cap,hb,ht,hl,rfl⟩
theorem q6l {b bu off:Nat}{v:Value}(h:bC C (.dk b bu off) v):∃r0 r cap,C.β b=I r0∧C.T (r0,bu,r,cap)∧v=.pointer (I ⟨r,off,El⟩):=by
 cases h with
 |dk _ _ _ r0 r cap hb ht=>exact⟨r0,r,cap,hb,ht,rfl⟩
theorem qy5 {t:TypeId}{x:Operand}{x':qf}{i:Nat}{fs:Array Field}{f:Field}{n b bu q:Nat}(he:aW C env a.tmps)(ho:o.op=.fieldAddr t x i)(ht:P.underlying t=I (.struct fs))(hf:fs[i]?=I f)
  (hn:yh P f.type=I n) (zJ:0<n) (h1:zr x=I x') (e1:zd env x'=I (.dk b bu q)):Val P C a o w (.dk b bu (q+f.offset)):=by
 obtain⟨r0,r,cap,hb,hT,hq⟩:=q6l (zt he h1 e1)
 refine⟨.pointer (I ⟨r,q+f.offset,El⟩),?_,.dk _ _ _ r0 r cap hb hT⟩
 simp[execOp,ho,Instr.fieldAt,run_underlying ht,hf,hq,Instr.sureAddr,fieldPlace,iT hn,Nat.pos_iff_ne_zero.1 zJ,add_lit]
theorem qyv {t e:TypeId}{x i:Operand}{x' i':qf}{sz:Nat}{iv:qa}{b bu len j:Nat}(he:aW C env a.tmps)(ho:o.op=.indexAddr t x i)(ht:P.underlying t=I (.slice e))
  (hn:yh P e=I sz) (h1:zr x=I x') (h2:zr i=I i') (e1:zd env x'=I (.au b bu len)) (e2:zd env i'=I iv) (hj:idx len iv=I j):Val P C a o w (.dk b bu (j*sz)):=by
 obtain⟨r0,r,cap,hb,hT,_,hq⟩:=Mx (zt he h1 e1)
 obtain⟨k,rfl,aY⟩:=E9 hj
 have hi:=(zt he h2 e2).bF
 refine⟨.pointer (I ⟨r,j*sz,El⟩),?_,.dk _ _ _ r0 r cap hb hT⟩
 simp[execOp,ho,Instr.indexAt,run_underlying ht,hq,hi,asIntOf,iT hn,aY,add_lit]
theorem q7n {t e:TypeId}{x:Operand}{lo hi:Option Operand}{x':qf}{li fH:Option qf}{sz j b bu len:Nat}(he:aW C env a.tmps)(ho:o.op=.slice t x lo hi El)(ht:P.underlying t=I (.slice e))
  (hn:yh P e=I sz) (h1:zr x=I x') (h2:mC lo=I li) (h3:mC hi=I fH) (e1:zd env x'=I (.au b bu len)) (b2:eX env len len fH=I j) (b1:eX env 0 j li=I 0):Val P C a o w (.au b bu j):=by
 obtain⟨r0,r,cap,hb,hT,hl,hq⟩:=Mx (zt he h1 e1)
 obtain⟨hM,k1,k2⟩:=Mp (P:=P) (isS:=true) he h2 h3 b2 b1 hl w
 refine⟨.slice (I ⟨r,0,El⟩) j cap,?_,.au _ _ _ r0 r cap hb hT (by omega)⟩
 simp[execOp,ho,Instr.sliceAt,Instr.slice,run_underlying ht,hq,hM,iT hn,add_lit]
theorem jid {c:Call}{x:Operand}{t e:TypeId}{x':qf}{b bu n:Nat}(he:aW C env a.tmps)(ho:o.op=.call c)(dA:c.callee=.builtin .len)(dL:c.args.toList=[x])(ea:c.argTypes.toList=[t])
  (h1:zr x=I x') (e1:zd env x'=I (.au b bu n)) (ht:P.underlying t=I (.slice e)):Val P C a o w (.int .i64 n):=by
 have ha:c.args=#[x]:=by apply Gc;simpa using dL
 have jW:c.argTypes=#[t]:=by apply Gc;simpa using ea
 refine⟨.int .i64 n,?_,.int _ _⟩
 simp only[execOp,ho,resolve,dA,ha,jW,Sem.run_bind,Sem.run_pure,Result.andThen_ok,invoke,builtin,Builtin.len_]
 obtain⟨r0,r,cap,_,_,_,hq⟩:=Mx (zt he h1 e1)
 simp[run_underlying ht,hq,goInt]
theorem jg4 (m:av P C ω w0 C0 hp w){b bu q cap r0 sz:Nat}{xs:List qa}(hb:C.β b=I r0)(hT:C.T (r0,bu,q,cap))(gf:hp[b]?=I (.vec sz bu xs)):
  ∃vs,aK C (xs.flatMap qa.flat) vs∧(∀(j:Nat) v,vs[j]?=I v→w.cell? ⟨q,j,El⟩=I v∧v.oneCell'=E6)∧dR C.K w q sz xs cap:=by
 obtain⟨q',ke,k1,k2,k3,k4,_⟩:=m.box b _ r0 gf hb
 have heq:=(k2 _ hT rfl).2 rfl
 simp only[Prod.mk.injEq]at heq
 obtain⟨rfl,rfl⟩:=heq
 obtain⟨cells,t,vs,g1,g2,g3,g4,g5,g6,g7⟩:=id k3
 refine⟨vs,qp.imp (C:=.bL C.K) (C':=C) ⟨fun _ _ _ h=>h,fun b r h=>by cases h⟩ g5 (fun _ h=>h.elim),fun j v hj=>⟨?_,g7 v (Ip hj)⟩,k3⟩
 unfold World.cell?
 rw[g1]
 simp only[Gx,Gk,if_false]
 exact g6 j v hj
theorem qz0 (m:av P C ω w0 C0 hp w)(he:aW C env a.tmps){t:TypeId}{x:Operand}{x':qf}{n:Nat}{ag:Bool}{b bu q sz:Nat}{xs:List qa}{v:qa}(ho:o.op=.load t x)(hg:fg P t=I ag)(hn:yh P t=I n)(h1:zr x=I x')(e1:zd env x'=I (.dk b bu q))
  (gf:hp[b]?=I (.vec sz bu xs)) (hl:q+n≤(xs.flatMap qa.flat).length) (hv:(ag=E6∧v=.agg (((xs.flatMap qa.flat).drop q).take n))∨(ag=En∧((xs.flatMap qa.flat).drop q).take n=[v])):Val P C a o w v:=by
 obtain⟨r0,r,cap,hb,hT,hq⟩:=q6l (zt he h1 e1)
 obtain⟨vs,k1,k2,_⟩:=jg4 m hb hT gf
 have k3:aK C (((xs.flatMap qa.flat).drop q).take n) ((vs.drop q).take n):=(k1.drop q).take n
 have k4:∀j u,((vs.drop q).take n)[j]?=I u→w.cell? ⟨r,q+j,El⟩=I u:=by
  intro j u hj
  rw[R2]at hj
  split at hj
  ·rw[List.getElem?_drop]at hj;exact(k2 _ _ hj).1
  ·cases hj
 have k5:((vs.drop q).take n).length=n:=by rw[k3.length,S6,List.length_drop];omega
 rcases hv with⟨rfl,rfl⟩|⟨rfl,hv⟩
 ·exact⟨.agg ⟨(vs.drop q).take n⟩,by simp[execOp,ho,Instr.loadAt,hq,Instr.sureAddr,Fo hg hn k5 k4],.agg _ _ k3⟩
 ·rw[hv]at k3
  generalize hgen:(vs.drop q).take n=us at k3 k4 k5
  cases k3 with
  |cons _ _ u us hu jV=>
   cases jV
   refine⟨u,?_,hu⟩
   have:=Fp (P:=P) hg (by simpa using k4 0 u rfl)
   simp[execOp,ho,Instr.loadAt,hq,Instr.sureAddr,this]
def ax.tok (C:ax)(x:Nat×Nat×Nat×Nat):ax:={ C with T:=fun q=>C.T q∨q=x }
theorem ax.gg {x:Nat×Nat×Nat×Nat}:C.le (C.tok x):=⟨fun _ _ _ h=>h,fun _ _ h=>h,rfl,fun _ h=>h,fun _ h=>.inl h⟩
theorem aC.tok {x:Nat×Nat×Nat×Nat}{B:Nat}{ℓ:Loc}{y:qa}{v:Value}(h:aC C ω w B ℓ y v):aC (C.tok x) ω w B ℓ y v:=by
 unfold aC at *
 exact h
theorem ai.tok {x:Nat×Nat×Nat×Nat}{B:Nat}(e:ai C ω w B env tmps):ai (C.tok x) ω w B env tmps:=
 fun s y hy=>let ⟨v,h1,h2,h3⟩:=e s y hy; ⟨v,h1,qp.mono ax.gg h2,fun h=>(h3 h).tok⟩
theorem av.pT (m:av P C ω w0 C0 hp w){b r sz bu q cap:Nat}{xs:List qa}(hβ:C.β b=I r)(hT:∀x,C.T x→x.1=r→x.2.1<bu)(hv:dR C.K w q sz xs cap)(ho:q=r∨xd C ω w w0.heap.size b q xs.length cap)(hr:∃cs t,w.heap[r]?=I (.cells cs t (0,0))):
  av P (C.tok (r,bu,q,cap)) ω w0 C0 (hp.set b (.vec sz bu xs)) w:=by
 have aY:=m.lt b r hβ
 refine { m with lt:=fun k p hk=>by rw[Tb];exact m.lt k p hk,grown:=ax.le_trans m.grown ax.gg,box:=?_,hH:=?_ }
 ·intro k y p hy hk
  by_cases jY:k=b
  ·subst jY
   rw[If aY.2]at hy
   cases hy
   obtain rfl:r=p:=by have:C.β k=I p:=hk;rw[hβ]at this;exact I.inj this
   refine⟨q,cap,.inr rfl,fun x hx hxr=>?_,hv,ho.imp id fun h=>h.tok,hr⟩
   rcases hx with hx|rfl
   ·have:=hT x hx hxr
    exact⟨by omega,fun h=>by omega⟩
   ·exact⟨Gl _,fun _=>rfl⟩
  ·rw[Oi (Ne.symm jY)]at hy
   have pM:p≠r:=fun h=>jY (m.inj k b p hk (h▸hβ))
   refine(m.box k y p hy hk).mono ax.gg (fun j z u h=>h.tok) (fun x hx hxp=>?_)
   rcases hx with hx|rfl
   ·exact hx
   ·exact absurd hxp.symm pM
 ·intro x hx
  rcases hx with hx|rfl
  ·exact m.hH x hx
  ·exact aY.1
theorem av.pU (m:av P C ω w0 C0 hp w){b r:Nat}(hβ:C.β b=I r)(hr:∃cs t,w.heap[r]?=I (.cells cs t (0,0))):av P C ω w0 C0 (hp.set b .dead) w:=
 m.dw (ω':=ω) (w':=w) (r:=r) (b:=b) ⟨rfl,fun _ _=>rfl,fun c t fr h=>by obtain⟨cs,t',h'⟩:=hr;rw[h']at h;cases h;rfl,rfl,rfl⟩ hβ .dead (fun _ _ _ _ _ h=>h) hr
theorem av.zV (m:av P C ω w0 C0 hp w){b q n cap:Nat}{cs:Array Value}(hd:hp[b]?=I .dead)(ho:xd C ω w w0.heap.size b q n cap)(hu:jn w w' q cs):av P C ω w0 C0 hp w':=by
 obtain⟨h1,h2,h3,_,_,⟨cells,elem,h5,_⟩,h7⟩:=ho
 simp only at h1 h2 h3 h5 h7
 have hK:∀o,C.K q o=El:=fun o=>h7 o (by simp)
 refine { base:=m.base,know:=?_,cP:=m.cP,apart:=m.apart,inj:=m.inj,lt:=?_,size:=?_,frame:=?_,eQ:=?_,os:=hu.os.trans m.os,output:=hu.output.trans m.output,fresh:=m.fresh,grown:=m.grown,old:=m.old,box:=?_,hH:=fun x hx=>by rw[hu.size];exact m.hH x hx }
 ·intro k p v hk
  have br:k≠q:=fun h=>by rw[h,hK p]at hk;cases hk
  have hc:=m.know _ _ _ hk
  simp only[World.cell?]at hc ⊢
  rw[hu.other k br];exact hc
 ·intro k p hk;rw[hu.size];exact m.lt k p hk
 ·rw[hu.size];exact m.size
 ·intro k hk hn hw
  have br:k≠q:=fun h=>by
   subst h
   rcases h2 with h|h
   ·omega
   ·rw[m.grown.w]at h;exact hw h
  rw[hu.other k br];exact m.frame k hk hn hw
 ·intro k hk
  have br:k≠q:=fun h=>by
   subst h
   have:=m.eQ k hk
   rw[h5]at this;cases this
  rw[hu.other k br];exact m.eQ k hk
 ·intro k x p hx hk
  have br:p≠q:=fun h=>h3 k (h▸hk)
  by_cases jY:k=b
  ·subst jY
   rw[hd]at hx
   cases hx
   obtain⟨dX,t',hg⟩:=m.box k .dead p hd hk
   exact⟨dX,t',by rw[hu.other p br];exact hg⟩
  ·exact(m.box k x p hx hk).ie hu br (fun j=>by rw[h1];intro h;injection h with h;injection h with h _;exact jY h.symm)
theorem qp9 {sz:Nat}:∀ {xs:List qa} (n:Nat),(∀x∈xs,x.flat.length=sz)→(xs.take n).flatMap qa.flat=(xs.flatMap qa.flat).take (n*sz)
 | [],n,_=>by simp
 |x::xs,0,_=>by simp
 |x::xs,n+1,h=>by
  have hx:=h x (Si ..)
  have h1:x.flat.take ((n+1)*sz)=x.flat:=List.take_of_length_le (by rw[hx,Nat.succ_mul];omega)
  have h2:(n+1)*sz-sz=n*sz:=by rw[Nat.succ_mul];omega
  rw[List.take_succ_cons,Nr,Nr,qp9 n (fun y hy=>h y (Oj _ hy)),List.take_append,hx,h1,h2]
theorem dR.grown {K:Nat→Nat→Option Value}{q q' sz len cap ke:Nat}{xs ys:List qa}{news eb:List Value}{dl:Array Value}{t':TypeId}(h:dR K w q sz xs cap)(hl:len≤xs.length)(cH:aK (.bL K) (ys.flatMap qa.flat) news)(fj:∀y∈ys,y.flat.length=sz)(cI:∀v∈news,v.oneCell'=E6)
  (hold:∀vs:List Value,aK (.bL K) (xs.flatMap qa.flat) vs→(∀(j:Nat) v,vs[j]?=I v→w.cell? ⟨q,j,El⟩=I v)→eb=vs.take (len*sz)) (hcap:len+ys.length≤ke) (cf:ke*sz≤dl.size)
  (hg:w'.heap[q']?=I (.cells dl t' (0,0))) (hc:∀(j:Nat) v,(eb++news)[j]?=I v→dl[j]?=I v):dR K w' q' sz (xs.take len++ys) ke:=by
 obtain⟨cells,t,vs,g1,g2,g3,g4,g5,g6,g7⟩:=h
 have ho:eb=vs.take (len*sz):=hold vs g5 (fun j v hj=>by
  unfold World.cell?
  rw[g1]
  simp only[Gx,Gk,if_false]
  exact g6 j v hj)
 refine⟨dl,t',eb++news,hg,by rw[Sp,S6];omega,cf,?_,?_,hc,?_⟩
 ·intro x hx
  rcases Tc.1 hx with hx|hx
  ·exact g4 x (Ok hx)
  ·exact fj x hx
 ·rw[List.flatMap_append,qp9 len g4,ho]
  exact(g5.take _).append cH
 ·intro v hv
  rcases Tc.1 hv with hv|hv
  ·rw[ho]at hv;exact g7 v (Ok hv)
  ·exact cI v hv
theorem aK.pure {xs:List qa}{vs:List Value}(h:aK C xs vs)(hb:zw 0 xs=E6):aK (.bL C.K) xs vs:=
 qp.shift (C:=C) (C':=.bL C.K) 0 (fun _ _ _ h=>h) (fun b r aY=>by omega) h hb
theorem SI {n:Nat}:∀ {xs:List qa},zw n xs=E6→zw n (xs.flatMap qa.flat)=E6
 | [],_=>rfl
 |x::xs,h=>by
  simp only[zw,E5]at h
  have key:∀(ys zs:List qa),zw n ys=E6→zw n zs=E6→zw n (ys++zs)=E6:=by
   intro ys zs
   induction ys with
   |nil=>intro _ h;exact h
   |cons y ys ih=>intro h1 h2;simp only[zw,E5,List.cons_append]at h1 ⊢;exact⟨h1.1,ih h1.2 h2⟩
  rw[Nr]
  exact key _ _ (by rw[Mf];exact h.1) (SI h.2)
theorem aK.fun {xs:List qa}:∀ {vs ws:List Value},aK C xs vs→aK C xs ws→vs.length=ws.length:=fun h k=>by rw[h.length,k.length]
theorem jc8 (m:av P C ω w0 C0 hp w)(e:ai C ω w w0.heap.size env a.tmps){c:Call}{t u el:TypeId}{ut:TypeDesc}{x y:Operand}{x' y':qf}{sz b bx bu len:Nat}{xs ys:List qa}{vy:qa}{h':j8}
  (ho:o.op=.call c) (dA:c.callee=.builtin .append) (dL:c.args.toList=[x,y]) (ea:c.argTypes.toList=[t,u]) (ht:P.underlying t=I (.slice el)) (hu:P.underlying u=I ut) (iV:zB ut=E6)
  (hn:yh P el=I sz) (hb:nq P el=I b) (h1:zr x=I x') (h2:zr y=I y') (e1:zd env x'=I (.au bx bu len)) (e2:zd env y'=I vy) (cy:kr sz vy=I ys)
  (gf:hp[bx]?=I (.vec sz bu xs)) (hle:len≤xs.length) (hlen:len+ys.length≤1073741824) (iU:b≤4096) (SJ:zw 0 ys=E6) (hzero:∃z,ek P el=I z∧z.length=sz)
  (bh:yj hp bx (.vec sz (bu+1) (xs.take len++ys))=I h'):
  ∃v w',(execOp a.eval o).run P w=.ok (.value v) w'∧kj P C0 w0 C a.tmps d env ⟨.au bx (bu+1) (len+ys.length),En,El,h'⟩ v w':=by
 have fJ:h'=hp.set bx (.vec sz (bu+1) (xs.take len++ys)):=by
  unfold yj at bh
  cases vI:Nat.blt bx hp.length with
  |false=>simp[vI]at bh
  |true=>simpa[vI]using bh.symm
 subst fJ
 have ha:c.args=#[x,y]:=by apply Gc;simpa using dL
 have jW:c.argTypes=#[t,u]:=by apply Gc;simpa using ea
 obtain⟨i,hi,pN⟩:∃i,P.info? el=I i∧i.bytes=b:=by
  unfold nq at hb
  cases hi:P.info? el with
  |none=>simp[hi]at hb
  |some i=>exact⟨i,rfl,by simpa[hi]using hb⟩
 have jX:i.size=sz:=by
  unfold yh at hn;rw[hi]at hn;simpa using hn
 obtain⟨z,hz,zR⟩:=hzero
 obtain⟨zv,mJ⟩:∃zv,i.zero=I zv:=by
  unfold ek at hz;rw[hi]at hz
  cases hq:i.zero with
  |none=>simp[hq]at hz
  |some v=>exact⟨v,rfl⟩
 have ry:=zt e.bU h2 e2
 obtain⟨news,hs,cH,fj,cI⟩:=Mt m hu iV cy ry
 have pV:aK (.bL C.K) (ys.flatMap qa.flat) news:=cH.pure (SI SJ)
 have eA:∀ {z:Value} {w':World},(Builtin.append_ #[t,u] o.type #[a.eval x,a.eval y]).run P w=.ok z w'→(execOp a.eval o).run P w=.ok (.value z) w':=by
  intro z w' h
  simp[execOp,ho,resolve,dA,ha,jW,invoke,builtin,h]
 have mK:news.length=ys.length*sz:=by rw[cH.length,lm ys fj]
 obtain⟨r0,q,cap,hβ,hT,hlc,hx⟩:=Mx (zt e.bU h1 e1)
 obtain⟨q',ke,k1,k2,k3,k4,k5⟩:=m.box bx _ r0 gf hβ
 have heq:=(k2 _ hT rfl).2 rfl
 simp only[Prod.mk.injEq]at heq
 obtain⟨rfl,rfl⟩:=heq
 have pW:∀x,C.T x→x.1=r0→x.2.1<bu+1:=fun x hx hr=>by have:=(k2 x hx hr).1;omega
 have vI:=(m.lt bx r0 hβ).2
 -- the old cells
 obtain⟨cells,te,vs,g1,g2,g3,g4,g5,g6,g7⟩:=id k3
 have vF:vs.length=xs.length*sz:=by rw[g5.length,lm xs g4]
 have hvle:xs.length*sz≤cap*sz:=E7 _ g2
 have hlle:len*sz≤xs.length*sz:=E7 _ hle
 have hold:∀pX:List Value,aK (.bL C.K) (xs.flatMap qa.flat) pX→(∀(j:Nat) v,pX[j]?=I v→w.cell? ⟨q,j,El⟩=I v)→vs.take (len*sz)=pX.take (len*sz):=by
  intro pX h3 h4
  have hl':pX.length=vs.length:=by rw[h3.length,g5.length]
  have:pX=vs:=by
   apply Sz
   intro j
   by_cases hj:j<vs.length
   ·have h5:=h4 j _ (Gi (by omega))
    have h6:=g6 j _ (Gi hj)
    unfold World.cell? at h5
    rw[g1]at h5
    simp only[Gx,Gk,if_false]at h5
    rw[Gi hj,Gi (by omega),←h5,h6]
   ·rw[Oe (by omega),Oe (by omega)]
  rw[this]
 by_cases dU:len+ys.length≤cap
 ·-- there is room
  have ga:(len+ys.length)*sz≤cap*sz:=E7 _ dU
  rw[Og]at ga
  have bn:=Sw (P:=P) (w:=w) (ty:=o.type) ht hi q 0 len cap (a.eval y) ys.length news (jX▸hs) dU g1 (by rw[jX,mK];omega)
  rw[←hx,jX]at bn
  have oS:=Ff g1 (cells.toList.take (0+len*sz)++news++cells.toList.drop (0+len*sz+news.length)).toArray
  have lv:=setRow_heap w q cells (cells.toList.take (0+len*sz)++news++cells.toList.drop (0+len*sz+news.length)).toArray te (0,0) g1
  generalize Sv:w.setRow q (cells.toList.take (0+len*sz)++news++cells.toList.drop (0+len*sz+news.length)).toArray=w' at bn oS lv
  have zW:dR C.K w' q sz (xs.take len++ys) cap:=by
   refine dR.grown (eb:=vs.take (len*sz)) k3 hle pV fj cI hold dU (by simp;omega) lv ?_
   intro j v hj
   rw[Gb]
   have ea:(cells.toList.take (0+len*sz)).length=len*sz:=by simp;omega
   have lx:(vs.take (len*sz)).length=len*sz:=by simp;omega
   by_cases Du:j<len*sz
   ·rw[S5,Gh (by rw[ea];exact Du)]
    rw[Gh (by rw[lx];exact Du),Od Du]at hj
    rw[Od (by omega),Ga]
    exact g6 j v hj
   ·rw[I9 (by rw[lx];omega),lx]at hj
    have hjn:j-len*sz<news.length:=(Ev.1 hj).1
    rw[S5,I9 (by rw[ea];omega),ea,Gh hjn]
    exact hj
  have fin:∀(m1:av P C ω w0 C0 (hp.set bx .dead) w') (e1:ai C ω w' w0.heap.size env a.tmps) (Fm:q=r0∨xd C ω w' w0.heap.size bx q (xs.take len++ys).length cap) (vJ:∃cs t,w'.heap[r0]?=I (.cells cs t (0,0))),
    kj P C0 w0 C a.tmps d env ⟨.au bx (bu+1) (len+ys.length),En,El,hp.set bx (.vec sz (bu+1) (xs.take len++ys))⟩ (.slice (I ⟨q,0,El⟩) (len+ys.length) cap) w':=by
   intro m1 e1 Fm vJ
   have m2:=m1.pT (b:=bx) (sz:=sz) (bu:=bu+1) (q:=q) (cap:=cap) (xs:=xs.take len++ys) hβ pW zW Fm vJ
   rw[St]at m2
   exact⟨_,ω,ax.gg,m2,e1.tok,.au _ _ _ r0 q cap hβ (.inr rfl) dU,by simp⟩
  refine⟨_,_,eA bn,?_⟩
  rcases k4 with rfl|k4
  ·refine fin ?_ (e.df oS.ie hβ) (.inl rfl) ⟨_,_,lv⟩
   exact m.dw oS.ie hβ .dead (fun _ _ _ _ _ h=>h) ⟨_,_,lv⟩
  ·have hqr:q≠r0:=fun h=>k4.2.2.1 bx (by rw[hβ];exact congrArg I h.symm)
   have md:=m.pU hβ k5
   have m1:=md.zV (by rw[If vI]) k4 oS
   obtain⟨SK,t5,k5⟩:=k5
   refine fin m1 ?_ (.inr ?_) ⟨SK,t5,by rw[oS.other _ (Ne.symm hqr)];exact k5⟩
   ·exact fun s y hy=>let ⟨v,j1,j2,j3⟩:=e s y hy; ⟨v,j1,j2,fun h=>(j3 h).ie oS (by rw[k4.1];simp)⟩
   ·obtain⟨j1,j2,j3,j4,j5,_,j7⟩:=k4
    exact⟨j1,j2,j3,j4,j5,⟨_,te,lv,by simp,fun _ _ _ h=>by simp at h⟩,fun o ho=>j7 o (by simp)⟩
 ·-- there is none
  have cf:Builtin.nextslicecap (len+ys.length) cap*i.bytes≤281474976710656:=growslice_fits (by omega) (by
   rw[pN]
   exact Ha (I6 hlen iU) (by decide))
  have Fx:(vs.take (len*sz)).length=len*i.size:=by rw[jX];simp;omega
  have bn:=run_append_grow_src w t u o.type el i zv ht hi mJ (I ⟨q,0,El⟩) len cap (vs.take (len*sz)) (run_firstCells_some _ _ _ _ _ _ _ Fx (fun j v hj=>by
   rw[R2]at hj
   split at hj
   ·have h3:=g6 j v hj
    have h4:w.cell? ⟨q,j,El⟩=I v:=by
     unfold World.cell?
     rw[g1]
     simp only[Gx,Gk,if_false]
     exact h3
    rw[add_lit,Sx]
    exact h4
   ·cases hj)) (a.eval y) ys.length news (jX▸hs) (by omega) (by omega) cf
  rw[←hx]at bn
  have ur:=grownCap_ge w (len+ys.length) cap el
  have gP:zv.cells.size=sz:=by
   obtain⟨_,zv',lj,Fk,_⟩:=uo (C:=C) hz
   have:=lj w
   simp[zeroValue,typeInfo,hi,mJ]at this
   subst this
   have:=Fk.length
   simp at this
   omega
  generalize ec:((vs.take (len*sz)++news).toArray++Builtin.zeroCells zv.cells (grownCap w (len+ys.length) cap el-(len+ys.length)))=dl at bn
  generalize SL:grownCap w (len+ys.length) cap el=gc at bn ur ec
  have ij:Ext w w.drew:=Ext.drew w
  have SN:Ext w.drew (w.drew.alloc (.cells dl el)):=Ext.alloc _ _ (fun c t fr h=>by cases h;rfl)
  have Fy:(w.drew.alloc (.cells dl el)).heap[w.drew.heap.size]?=I (.cells dl el (0,0)):=by rw[vD,if_pos rfl]
  have zW:dR C.K (w.drew.alloc (.cells dl el)) w.drew.heap.size sz (xs.take len++ys) gc:=by
   refine dR.grown (eb:=vs.take (len*sz)) k3 hle pV fj cI hold ur ?_ Fy ?_
   ·rw[←ec]
    have lx:(vs.take (len*sz)).length=len*sz:=by simp;omega
    simp only[M1,M2,Sp,lx,mK]
    have:(Builtin.zeroCells zv.cells (gc-(len+ys.length))).size=(gc-(len+ys.length))*sz:=by simp[Builtin.zeroCells,gP]
    rw[this,←Og,←Og]
    exact E7 _ (by omega)
   ·intro j v hj
    rw[←ec,Gp (by simpa using(Ev.1 hj).1)]
    simpa using hj
  have md:=((m.pU hβ k5).ext ij).jU w.drew.heap.size (.cell bx 0) (Gl _)
  have m1:=md.ext SN
  obtain⟨SK,t5,k5⟩:=k5
  have m2:=m1.pT (b:=bx) (sz:=sz) (bu:=bu+1) (q:=w.drew.heap.size) (cap:=gc) (xs:=xs.take len++ys) hβ pW zW (.inr ⟨by simp[ct],.inl (Ha m.size ij.size),fun k hk=>by have:=(m.lt k _ hk).1;simp at this,rfl,rfl,⟨dl,el,Fy,by simp,fun _ _ _ h=>by simp at h⟩,fun o _=>m.jD _ ij.size o⟩) ⟨SK,t5,(ij.trans SN).get k5⟩
  rw[St]at m2
  refine⟨_,_,eA bn,_,_,ax.gg,m2,(((e.ext ij).fresh (Gl _)).ext SN).tok,.au _ _ _ r0 _ gc hβ (.inr rfl) (by omega),by simp⟩
theorem jbs (m:av P C ω w0 C0 hp w)(e:ai C ω w w0.heap.size env tmps){bx sz cap:Nat}{xs:List qa}{cells:Array Value}{te:TypeId}{vs:List Value}(hh:hp[bx]?=I .hole)(My:aK C (xs.flatMap qa.flat) vs)(zX:zw 0 xs=E6)(cD:∀x∈xs,x.flat.length=sz)
  (cI:∀v∈vs,v.oneCell'=E6) (hc:∀(j:Nat) v,vs[j]?=I v→cells[j]?=I v) (hcap:xs.length≤cap) (cf:cap*sz≤cells.size):
  kj P C0 w0 C tmps d env ⟨.au bx 0 xs.length,En,El,hp.set bx (.vec sz 0 xs)⟩ (.slice (I ⟨w.heap.size,0,El⟩) xs.length cap) (w.alloc (.cells cells te)):=by
 obtain⟨m1,e1,zY⟩:=m.aI e hh (.cells cells te) (fun c t fr h=>by cases h;rfl) .dead (fun C' ω' w' _ hg=>⟨cells,te,hg⟩)
 have Fy:(w.alloc (.cells cells te)).heap[w.heap.size]?=I (.cells cells te (0,0)):=by rw[vD,if_pos rfl]
 have hβ:(C.box bx w.heap.size).β bx=I w.heap.size:=by simp[ax.box]
 have m2:=m1.pT (b:=bx) (r:=w.heap.size) (sz:=sz) (bu:=0) (q:=w.heap.size) (cap:=cap) (xs:=xs) hβ (fun x hx hr=>by have:=m.hH x hx;omega) ⟨cells,te,vs,Fy,hcap,cf,cD,My.pure (SI zX),hc,cI⟩ (.inl rfl) ⟨cells,te,Fy⟩
 rw[St]at m2
 exact⟨_,ω,ax.le_trans zY ax.gg,m2,e1.tok,.au _ _ _ w.heap.size w.heap.size cap hβ (.inr rfl) hcap,by simp⟩
theorem jej (m:av P C ω w0 C0 hp w)(e:ai C ω w w0.heap.size env a.tmps){c:Call}{t u el:TypeId}{ut:TypeDesc}{x y:Operand}{x' y':qf}{sz SP b h0 rk:Nat}{ys:List qa}{vy:qa}{h':j8}
  (ho:o.op=.call c) (dA:c.callee=.builtin .append) (dL:c.args.toList=[x,y]) (ea:c.argTypes.toList=[t,u]) (ht:P.underlying t=I (.slice el)) (hu:P.underlying u=I ut) (iV:zB ut=E6)
  (hn:yh P el=I sz) (hb:nq P el=I b) (h1:zr x=I x') (h2:zr y=I y') (e1:zd env x'=I (.list E6 SP [])) (e2:zd env y'=I vy) (cy:kr sz vy=I ys)
  (hlen:ys.length≤1073741824) (br:ys≠[]) (iU:b≤4096) (SJ:zw 0 ys=E6) (hzero:∃z,ek P el=I z∧z.length=sz) (cQ:aI h0 hp rk (.vec sz 0 ys)=I h'):
  ∃v w',(execOp a.eval o).run P w=.ok (.value v) w'∧kj P C0 w0 C a.tmps d env ⟨.au (h0+rk) 0 ys.length,En,El,h'⟩ v w':=by
 obtain⟨hh,rfl⟩:=lu cQ
 have ha:c.args=#[x,y]:=by apply Gc;simpa using dL
 have jW:c.argTypes=#[t,u]:=by apply Gc;simpa using ea
 obtain⟨i,hi,pN⟩:∃i,P.info? el=I i∧i.bytes=b:=by
  unfold nq at hb
  cases hi:P.info? el with
  |none=>simp[hi]at hb
  |some i=>exact⟨i,rfl,by simpa[hi]using hb⟩
 have jX:i.size=sz:=by
  unfold yh at hn;rw[hi]at hn;simpa using hn
 obtain⟨z,hz,zR⟩:=hzero
 obtain⟨zv,mJ⟩:∃zv,i.zero=I zv:=by
  unfold ek at hz;rw[hi]at hz
  cases hq:i.zero with
  |none=>simp[hq]at hz
  |some v=>exact⟨v,rfl⟩
 have ry:=zt e.bU h2 e2
 obtain⟨news,hs,cH,fj,cI⟩:=Mt m hu iV cy ry
 have eA:∀ {z:Value} {w':World},(Builtin.append_ #[t,u] o.type #[a.eval x,a.eval y]).run P w=.ok z w'→(execOp a.eval o).run P w=.ok (.value z) w':=by
  intro z w' h
  simp[execOp,ho,resolve,dA,ha,jW,invoke,builtin,h]
 have mK:news.length=ys.length*sz:=by rw[cH.length,lm ys fj]
 have hx:a.eval x=.slice El 0 0:=by
  rcases(zt e.bU h1 e1).cG with⟨_,_,hx⟩|⟨hf,_⟩|⟨hf,_⟩
  ·exact hx
  ·cases hf
  ·cases hf
 have gR:0<ys.length:=List.length_pos_iff.2 br
 have cf:Builtin.nextslicecap (0+ys.length) 0*i.bytes≤281474976710656:=growslice_fits (by omega) (by
  rw[pN]
  exact Ha (I6 (by omega) iU) (by decide:2^30*4096≤_))
 have bn:=run_append_grow_src w t u o.type el i zv ht hi mJ El 0 0 [] (run_firstCells_none _ _ _ _ _) (a.eval y) ys.length news (jX▸hs) (by omega) (by omega) cf
 rw[←hx]at bn
 have ur:=grownCap_ge w (0+ys.length) 0 el
 have gP:zv.cells.size=sz:=by
  obtain⟨_,zv',lj,Fk,_⟩:=uo (C:=C) hz
  have:=lj w
  simp[zeroValue,typeInfo,hi,mJ]at this
  subst this
  have:=Fk.length
  simp at this
  omega
 generalize ec:(([]++news).toArray++Builtin.zeroCells zv.cells (grownCap w (0+ys.length) 0 el-(0+ys.length)))=dl at bn
 generalize SL:grownCap w (0+ys.length) 0 el=gc at bn ur ec
 have ij:Ext w w.drew:=Ext.drew w
 have:=jbs (d:=d) (tmps:=a.tmps) (m.ext ij) (e.ext ij) (te:=el) (cap:=gc) (sz:=sz) (cells:=dl) hh cH SJ fj cI (fun j v hj=>by
  rw[←ec,Iu,Gp (by simpa using(Ev.1 hj).1)]
  simpa using hj) (by omega) (by
   rw[←ec]
   have h5:(Builtin.zeroCells zv.cells (gc-(0+ys.length))).size=(gc-(0+ys.length))*sz:=by simp[Builtin.zeroCells,gP]
   simp only[M1,M2,Iu,mK,h5]
   rw[←Og]
   exact E7 _ (by omega))
 rw[Sx]at bn
 exact⟨_,_,eA bn,this⟩
theorem jc4 (m:av P C ω w0 C0 hp w)(e:ai C ω w w0.heap.size env a.tmps){t el:TypeId}{ps:Array (Nat×Operand)}{len sz h0 rk:Nat}{z:List qa}{ft:List (Nat×qf)}{qs:List (Nat×qa)}{xs:List qa}{h':j8}
  (ho:o.op=.buildSlice t len ps) (ht:P.underlying t=I (.slice el)) (hn:yh P el=I sz) (hz:ek P el=I z) (hlen:sz*len≤65536) (SE:0<sz) (gP:z.length=sz)
  (lT:wZ ps.toList=I ft) (hq:iF env sz ft=I qs) (hx:lb (Hv len (um sz z)) qs=I xs) (zX:zw 0 xs=E6) (cQ:aI h0 hp rk (.vec sz 0 xs)=I h'):
  ∃v w',(execOp a.eval o).run P w=.ok (.value v) w'∧kj P C0 w0 C a.tmps d env ⟨.au (h0+rk) 0 xs.length,En,El,h'⟩ v w':=by
 obtain⟨hh,rfl⟩:=lu cQ
 obtain⟨ds,bn,hdr,h1,oR,jG,cf⟩:=qon (C:=C) (ω:=ω) (w:=w) (w0:=w0) e ho ht hn hz hlen SE gP lT hq hx
 refine⟨_,_,bn,?_⟩
 have ez:=jbs (d:=d) (tmps:=a.tmps) m e (te:=el) (cap:=len) (sz:=sz) (cells:=ds) hh hdr zX oR h1 (by intro j v h;simpa using h) (by omega) cf
 rw[jG]at ez ⊢
 exact ez
theorem q75 (m:av P C ω w0 C0 hp w)(e:ai C ω w w0.heap.size env a.tmps){t:TypeId}{z:List qa}(ho:o.op=.alloc t)(hz:ek P t=I z):
  ∃v w',(execOp a.eval o).run P w=.ok (.value v) w'∧kj P C0 w0 C a.tmps d env ⟨.cE z.length,E6,El,hp⟩ v w':=by
 obtain⟨_,zv,kQ,cw,lj⟩:=uo (C:=C) hz
 have hx:Ext w (w.alloc (.cells zv.cells t)):=Ext.alloc w _ (fun c t fr h=>by cases h;rfl)
 have gP:zv.cells.size=z.length:=by have:=cw.length;simpa using this
 refine⟨.pointer (I ⟨w.heap.size,0,El⟩),_,by simp[execOp,ho,Instr.alloc,kQ,newVar,newRow],C,Abs.ct ω w.heap.size d,ax.le_refl C,(m.jU _ d (Gl _)).ext hx,(e.fresh (Gl _)).ext hx,.cE _ _,fun _=>?_⟩
 refine⟨by simp[Abs.ct],.inl m.size,fun b hb=>by have:=(m.lt b _ hb).1;simp at this,rfl,rfl,⟨zv.cells,t,by rw[vD,if_pos rfl],by simp;omega,fun _ _ _ h=>by simp at h⟩,fun o _=>m.jD _ (Gl _) o⟩
theorem q9e (m:av P C ω w0 C0 hp w)(e:ai C ω w w0.heap.size env a.tmps){t:TypeId}{x y:Operand}{y':qf}{n s:Nat}{v:qa}(ho:o.op=.store t x y)(hn:yh P t=I n)
  (h1:zr x=I (.tmp s)) (h2:zr y=I y') (hl:ye s env=I (.cE n,E6)) (e2:zd env y'=I v) (vF:v.flat.length=n) (hs:v.flat.all ze=E6):
  ∃w' C' ω',(execOp a.eval o).run P w=.ok .skip w'∧C.le C'∧av P C' ω' w0 C0 hp w'∧ai C' ω' w' w0.heap.size ((s,.ah v,En)::env) a.tmps:=by
 obtain⟨cv,c1,c2,c3⟩:=e s _ hl
 have gC:a.eval x=cv:=by
  cases x with
  |tmp t'=>
   simp only[zr]at h1
   cases h1
   simp[Act.eval,I7,c1]
  |const u=>simp only[zr]at h1;split at h1<;>cases h1
  |func f=>simp[zr]at h1
  |global g=>simp[zr]at h1
 cases c2 with
 |cE _ ad=>
  obtain⟨hω,hB,hβ,lS,vE,⟨cells,te,hg,cf,_⟩,hK⟩:=c3 rfl
  obtain⟨r,q,sp⟩:=ad
  simp only at hω hB hβ lS vE hg cf hK
  subst lS
  subst vE
  have ry:=zt e.bU h2 e2
  have hc:=zK ry hs
  have cI:=zM hc (fun y hy=>List.all_eq_true.1 hs y hy)
  have du:(a.eval y).cells.toList.length=n:=by rw[hc.length,vF]
  have bn:=SC (P:=P) (t:=t) (off:=0) hn du hg (by omega) cI
  obtain⟨m',e',hle⟩:=qxy (d:=.slot s) m e (r:=r) (q:=0) (news:=(a.eval y).cells.toList) hω hB hβ hg (by omega) (fun o _=>hK o (by simp)) cI
  refine⟨_,_,_,?_,hle,m',?_⟩
  ·simp only[execOp,ho,Instr.storeAt,Sem.run_bind,gC,Instr.sureAddr,Sem.run_pure,Result.andThen_ok,bn]
  ·intro t' z hz
   by_cases lq:t'=s
   ·subst lq
    simp only[ye,Nat.beq_refl,cT,I.injEq]at hz
    subst hz
    exact⟨_,c1,.ah _ _ _ (ax.eL (fun o _=>hK o (by simp)) hc),by simp⟩
   ·have hb:Gm s t'=En:=by
     cases hb:Gm s t' with
     |false=>rfl
     |true=>exact absurd (Eo hb).symm lq
    simp only[ye,hb,cond_false]at hz
    refine e' t' z ?_
    simp only[gy,hl,ye,hb,cond_false]
    exact hz
end
section
variable {P:Program}{C C0:ax}{ω:Nat→Option Loc}{w w' w0:World}{hp:j8}{env:Env}{a:Act}{o:Oper}{tmps:Array Value}{d:Loc}
def jJ (w:World)(r:Nat)(x:Obj):World:={ w with heap:=w.heap.setIfInBounds r x }
theorem Fz {r:Nat}{x:Obj}(h:r<w.heap.size):(jJ w r x).heap[r]?=I x:=by
 show(w.heap.setIfInBounds r x)[r]?=_
 rw[Array.getElem?_setIfInBounds_self_of_lt h]
theorem Dv {r:Nat}{x:Obj}(h:r<w.heap.size)(hx:∀c t fr,x=.cells c t fr→fr=(0,0)):jl w (jJ w r x) r where
 size:=by simp[jJ]
 other k hk:=by
  show(w.heap.setIfInBounds r x)[k]?=_
  rw[Array.getElem?_setIfInBounds_ne (Ne.symm hk)]
 fz c t fr hc:=by
  rw[Fz h]at hc
  exact hx c t fr (I.inj hc)
 os:=rfl
 output:=rfl
theorem xk {r:Nat}{x y:Obj}(h:w.heap[r]?=I y)(hy:∀c t f,y≠.cells c t f):(setObj r x).run P w=.ok () (jJ w r x):=by
 cases y with
 |cells c t f=>exact absurd rfl (hy c t f)
 |_=>simp[setObj,Sem.run,jJ,h]
theorem oT {r:Nat}{y:Obj}(h:w.heap[r]?=I y)(hy:∀c t f,y≠.cells c t f):(getObj r).run P w=.ok y w:=by
 cases y with
 |cells c t f=>exact absurd rfl (hy c t f)
 |_=>simp[getObj,Sem.run,h]
theorem q99 (m:av P C ω w0 C0 hp w)(e:ai C ω w w0.heap.size env a.tmps){x:Operand}{x':qf}{b pos:Nat}{s:List UInt8}(ho:o.op=.next x E6)(h1:zr x=I x')(e1:zd env x'=I (.ptr b 0))(gf:hp[b]?=I (.iter s pos)):
  (pos<s.length→∀h',yj hp b (.iter s (pos+(zf s pos).2))=I h'→∃v w',(execOp a.eval o).run P w=.ok (.value v) w'∧kj P C0 w0 C a.tmps d env ⟨.az [.bool E6,.int .i64 pos,.int .i32 (zf s pos).1],En,El,h'⟩ v w') ∧
  (¬pos<s.length→∃v w',(execOp a.eval o).run P w=.ok (.value v) w'∧kj P C0 w0 C a.tmps d env ⟨.az [.bool En],En,El,hp⟩ v w'):=by
 obtain⟨r,hr,hq⟩:=(zt e.bU h1 e1).cU
 have gd:w.heap[r]?=I (.stringIter ⟨⟨s⟩⟩ pos):=m.box b _ r gf hr
 have aY:=(m.lt b r hr).1
 have cD:(⟨⟨s⟩⟩:ByteArray).size=s.length:=rfl
 constructor
 ·intro gR h' bh
  obtain rfl:=zS bh
  have hu:=Dv (w:=w) (r:=r) (x:=.stringIter ⟨⟨s⟩⟩ (pos+(zf s pos).2)) aY (by simp)
  refine⟨.tuple #[.bool E6,goInt pos,.int .i32 (zf s pos).1],jJ w r (.stringIter ⟨⟨s⟩⟩ (pos+(zf s pos).2)),?_,C,ω,ax.le_refl C,m.dw hu hr _ (fun _ _ _ _ _ h=>h) (Fz aY),e.df hu hr,?_,by simp⟩
  ·have dV:pos<(⟨⟨s⟩⟩:ByteArray).size:=gR
   have bh:=xk (P:=P) (x:=.stringIter ⟨⟨s⟩⟩ (pos+(zf s pos).2)) gd (by simp)
   simp only[execOp,ho,hq,Instr.next,Sem.run_bind,oT gd (by simp),Result.andThen_ok,dV,if_true]
   unfold zf at bh ⊢
   simp only[Sem.run_bind,bh,Result.andThen_ok,Sem.run_pure]
  ·refine .az _ _ (.cons _ _ _ _ (.bool _) (.cons _ _ _ _ ?_ (.cons _ _ _ _ (.int _ _) .nil)))
   exact .int _ _
 ·intro gR
  have dV:¬pos<(⟨⟨s⟩⟩:ByteArray).size:=gR
  refine⟨.tuple #[.bool En],w,?_,q2b m e (.az _ _ (.cons _ _ _ _ (.bool _) .nil))⟩
  simp only[execOp,ho,hq,Instr.next,Sem.run_bind,oT gd (by simp),Result.andThen_ok,dV,if_false,Sem.run_pure]
theorem SQ {t:TypeId}{kd:Kd}(h:jT P t=I kd):(kd=.int∧∃k,P.underlying t=I (.int k))∨(kd=.str∧P.underlying t=I .string)∨(kd=.bool∧P.underlying t=I .bool):=by
 unfold jT at h
 split at h<;>first|cases h|skip
 ·exact .inl ⟨rfl,_,‹_›⟩
 ·exact .inr (.inl ⟨rfl,‹_›⟩)
 ·exact .inr (.inr ⟨rfl,‹_›⟩)
theorem qxs {t:TypeId}{td:TypeDesc}{kd:Kd}{x y:qa}{u v:Value}{b:Bool}(ht:P.underlying t=I td)(hk:jT P t=I kd)(hx:bC C x u)(hy:bC C y v)(h:mc kd x y=I b):Instr.sameNow td u v=I b∧(b=E6→x=y∧u=v∧Instr.sameBits 10000 v u=E6):=by
 rcases SQ hk with⟨rfl,k,hu⟩|⟨rfl,hu⟩|⟨rfl,hu⟩<;>rw[hu]at ht<;>cases ht
 ·cases x<;>cases y<;>simp only[mc]at h<;>first|cases h|skip
  rename_i k1 n1 k2 n2
  have e1:=hx.bF
  have e2:=hy.bF
  subst e1;subst e2
  by_cases gS:k1=k2
  ·subst gS
   simp only[decide_true,cT,I.injEq]at h
   refine⟨by simp[Instr.sameNow,h],fun hb=>?_⟩
   subst hb
   have:n1=n2:=by simpa using h
   subst this
   exact⟨rfl,rfl,by simp[Instr.sameBits]⟩
  ·simp[gS]at h
 ·cases x<;>cases y<;>simp only[mc]at h<;>first|cases h|skip
  rename_i s1 s2
  have e1:=hx.bW
  have e2:=hy.bW
  subst e1;subst e2
  have FA:((⟨⟨s1⟩⟩:ByteArray) == ⟨⟨s2⟩⟩)=(s1 == s2):=by
   show(Array.mk s1 == Array.mk s2)=_
   simp
  refine⟨by simp only[Instr.sameNow,FA],fun hb=>?_⟩
  have xl:s1=s2:=by simpa using hb
  subst xl
  refine⟨rfl,rfl,?_⟩
  simp only[Instr.sameBits,FA]
  simp
 ·cases x<;>cases y<;>simp only[mc]at h<;>first|cases h|skip
  rename_i b1 b2
  have e1:=hx.cS
  have e2:=hy.cS
  subst e1;subst e2
  refine⟨by simp[Instr.sameNow],fun hb=>?_⟩
  have xl:b1=b2:=by simpa using hb
  subst xl
  exact⟨rfl,rfl,by simp[Instr.sameBits]⟩
theorem FB {t:TypeId}{td:TypeDesc}{kd:Kd}{k:qa}{u:Value}(ht:P.underlying t=I td)(hk:jT P t=I kd)(hx:bC C k u):∀ {es:List (qa×qa)} {ms:List MapEntry} {i:Nat} {r:Option (Nat×qa)},qy C es ms→yz kd k es i=I r →
  match r with
  |none=>Instr.findNow td u ms i=I El
  |some (j,v)=>∃m,i≤j∧es[j-i]?=I (k,v)∧ms[j-i]?=I m∧m.key=u∧bC C v m.val∧Instr.findNow td u ms i=I (I (j,m.val))∧Instr.sameBits 10000 m.key u=E6
 |_,_,i,r,.nil,h=>by
  simp only[yz,I.injEq]at h
  subst h
  simp[Instr.findNow]
 |_,_,i,r,.cons k' v' es m ms h1 h2 h3,h=>by
  simp only[yz]at h
  split at h
  ·rename_i he
   cases h
   obtain⟨q1,q2⟩:=qxs ht hk hx h1 he
   obtain⟨rfl,rfl,q3⟩:=q2 rfl
   exact⟨m,Gl _,by simp,by simp,rfl,h2,by simp[Instr.findNow,q1],q3⟩
  ·rename_i he
   obtain⟨q1,_⟩:=qxs ht hk hx h1 he
   have ih:=FB ht hk hx h3 h
   cases r with
   |none=>simp only[Instr.findNow,q1];exact ih
   |some jv=>
    obtain⟨j,v⟩:=jv
    obtain⟨m2,k1,k2,k3,k4,k5,k6,k7⟩:=ih
    refine⟨m2,by omega,?_,?_,k4,k5,by simp only[Instr.findNow,q1];exact k6,k7⟩
    ·rw[show j-i=(j-(i+1))+1 from by omega];simpa using k2
    ·rw[show j-i=(j-(i+1))+1 from by omega];simpa using k3
  ·cases h
theorem Dw {t:TypeId}{kd:Kd}(hk:jT P t=I kd)(e:Bool)(v:Value):(Instr.checkKey e 10000 t v).run P w=.ok () w:=by
 rcases SQ hk with⟨_,k,hu⟩|⟨_,hu⟩|⟨_,hu⟩<;>(unfold Instr.checkKey;simp[run_underlying hu])
theorem FC {t:TypeId}{td:TypeDesc}{u:Value}{ms:List MapEntry}{r:Option (Nat×Value)}(ht:P.underlying t=I td)(h:Instr.findNow td u ms 0=I r):(Instr.findKey t u ms).run P w=.ok r w:=by
 simp[Instr.findKey,run_underlying ht,h]
theorem SR {t:TypeId}{kd:Kd}(hk:jT P t=I kd):∃td,P.underlying t=I td:=by
 rcases SQ hk with⟨_,k,hu⟩|⟨_,hu⟩|⟨_,hu⟩<;>exact⟨_,hu⟩
theorem SS (m:av P C ω w0 C0 hp w)(e:ai C ω w w0.heap.size env a.tmps){t kt el:TypeId}{x y:Operand}{ok:Bool}{x' y':qf}{kd:Kd}{zv mv kv:qa}{r:Option (Nat×qa)}(ho:o.op=.lookup t x y ok)(ht:P.underlying t=I (.map kt el))(hO:jT P kt=I kd)(hz:R0 P el=I zv)
  (h1:zr x=I x') (h2:zr y=I y') (e1:zd env x'=I mv) (e2:zd env y'=I kv)
  (hv:(mv=.bM∧r=El)∨∃b es,mv=.map b∧hp[b]?=I (.map es)∧yz kd kv es 0=I r):
  Val P C a o w (match r with
   |some (_,v)=>bif ok then .az [v,.bool E6]else v
   |none=>bif ok then .az [zv,.bool En]else zv):=by
 have gQ:=zt e.bU h2 e2
 have uw:=zt e.bU h1 e1
 obtain⟨td,pY⟩:=SR hO
 obtain⟨FD,kQ,mJ⟩:∃v,(∀w,(zeroValue el).run P w=.ok v w)∧bC C zv v:=by
  unfold R0 at hz
  split at hz
  ·rename_i i hi
   split at hz
   ·rename_i v hv
    exact⟨v,fun w=>by simp[zeroValue,typeInfo,hi,hv],qt2 C hz⟩
   ·cases hz
  ·cases hz
 have fin:∀ {ms:List MapEntry} {rv:Option (Nat×Value)},(a.eval x=.map El∧ms=[]∨∃q clock,a.eval x=.map (I q)∧w.heap[q]?=I (.map ⟨ms⟩ clock))→Instr.findNow td (a.eval y) ms 0=I rv →
   (execOp a.eval o).run P w=.ok (.value (if ok then .tuple #[(match rv with|some (_,v)=>v|none=>FD),.bool rv.isSome]else(match rv with|some (_,v)=>v|none=>FD))) w:=by
  intro ms rv hm hf
  have ux:=FC (w:=w) pY hf
  rcases hm with⟨hm,rfl⟩|⟨q,clock,hm,hq⟩
  ·cases rv<;>simp[execOp,ho,Instr.lookup,run_underlying ht,hm,Dw hO,ux,kQ]
  ·cases rv<;>simp[execOp,ho,Instr.lookup,run_underlying ht,hm,oT hq (by simp),Dw hO,ux,kQ]
 rcases hv with⟨rfl,rfl⟩|⟨b,es,rfl,hb,hfe⟩
 ·generalize lU:a.eval x=mx at uw
  cases uw
  refine⟨_,fin (ms:=[]) (rv:=none) (.inl ⟨lU,rfl⟩) (by simp[Instr.findNow]),?_⟩
  cases ok with
  |true=>exact .az _ _ (.cons _ _ _ _ mJ (.cons _ _ _ _ (.bool _) .nil))
  |false=>exact mJ
 ·generalize lU:a.eval x=mx at uw
  cases uw with
  |map _ q oc=>
   obtain⟨bQ,clock,g1,g2⟩:=m.box b _ q hb oc
   have hf:=FB pY hO gQ g2 hfe
   cases r with
   |none=>
    refine⟨_,fin (ms:=bQ.toList) (rv:=none) (.inr ⟨q,clock,lU,g1⟩) hf,?_⟩
    cases ok with
    |true=>exact .az _ _ (.cons _ _ _ _ mJ (.cons _ _ _ _ (.bool _) .nil))
    |false=>exact mJ
   |some jv=>
    obtain⟨j,v⟩:=jv
    obtain⟨me,_,_,_,_,hrv,hfn,_⟩:=hf
    refine⟨_,fin (ms:=bQ.toList) (rv:=I (j,me.val)) (.inr ⟨q,clock,lU,g1⟩) hfn,?_⟩
    cases ok with
    |true=>exact .az _ _ (.cons _ _ _ _ hrv (.cons _ _ _ _ (.bool _) .nil))
    |false=>exact hrv
theorem qy.ie {k v:qa}:∀ {es:List (qa×qa)} {ms:List MapEntry} {j:Nat} {m:MapEntry},qy C es ms→bC C v m.val→(∀k',(es[j]?).map (·.1)=I k'→bC C k' m.key)→qy C (pG es j v) (ms.set j m)
 |_,_,j,m,.nil,_,_=>by simp[pG];exact .nil
 |_,_,0,m,.cons k' v' es m' ms h1 h2 h3,hv,hk=>by
  simp only[pG,List.set_cons_zero]
  exact .cons _ _ _ _ _ (hk k' (by simp)) hv h3
 |_,_,j+1,m,.cons k' v' es m' ms h1 h2 h3,hv,hk=>by
  simp only[pG,List.set_cons_succ]
  exact .cons _ _ _ _ _ h1 h2 (qy.ie (k:=k) h3 hv (fun k' h=>hk k' (by simpa using h)))
theorem qy.push {k v:qa}{m:MapEntry}{es:List (qa×qa)}{ms:List MapEntry}(h:qy C es ms)(hk:bC C k m.key)(hv:bC C v m.val):qy C (es++[(k,v)]) (ms++[m]):=by
 induction h with
 |nil=>exact .cons _ _ _ _ _ hk hv .nil
 |cons k' v' es m' ms h1 h2 _ ih=>exact .cons _ _ _ _ _ h1 h2 ih
theorem qpx (m:av P C ω w0 C0 hp w)(e:ai C ω w w0.heap.size env a.tmps){t kt el:TypeId}{x y z:Operand}{x' y' z':qf}{kd:Kd}{kv v:qa}{b:Nat}{es:List (qa×qa)}{h':j8}(ho:o.op=.mapUpdate t x y z∨o.op=.insert t x y z)(ht:P.underlying t=I (.map kt el))(hO:jT P kt=I kd)
  (h1:zr x=I x') (h2:zr y=I y') (h3:zr z=I z') (e1:zd env x'=I (.map b)) (e2:zd env y'=I kv) (e3:zd env z'=I v) (hb:hp[b]?=I (.map es))
  (hv:(∃i u,yz kd kv es 0=I (I (i,u))∧yj hp b (.map (pG es i v))=I h')∨(yz kd kv es 0=I El∧yj hp b (.map (es++[(kv,v)]))=I h')):
  ∃w',(execOp a.eval o).run P w=.ok .skip w'∧kj P C0 w0 C a.tmps d env ⟨.undef,En,El,h'⟩ undef w':=by
 have gQ:=zt e.bU h2 e2
 have hvr:=zt e.bU h3 e3
 have uw:=zt e.bU h1 e1
 obtain⟨td,pY⟩:=SR hO
 generalize lU:a.eval x=mx at uw
 cases uw with
 |map _ q oc=>
  obtain⟨bQ,clock,g1,g2⟩:=m.box b _ q hb oc
  have aY:=(m.lt b q oc).1
  have done:∀(zZ:List (qa×qa)) (pZ:Array MapEntry) (kA:Nat),qy C zZ pZ.toList→yj hp b (.map zZ)=I h' →
    (execOp a.eval o).run P w=.ok .skip (jJ w q (.map pZ kA))→∃w',(execOp a.eval o).run P w=.ok .skip w'∧kj P C0 w0 C a.tmps d env ⟨.undef,En,El,h'⟩ undef w':=by
   intro zZ pZ kA vK bh bn
   obtain rfl:=zS bh
   have hu:=Dv (w:=w) (r:=q) (x:=.map pZ kA) aY (by simp)
   exact⟨_,bn,C,ω,ax.le_refl C,m.dw hu oc _ (fun _ _ _ _ _ h=>h) ⟨pZ,kA,Fz aY,vK⟩,e.df hu oc,.undef,by simp⟩
  rcases hv with⟨i,u,hf,bh⟩|⟨hf,bh⟩
  ·obtain⟨me,_,k1,k2,k3,k4,k5,k6⟩:=FB pY hO gQ g2 hf
   have ux:=FC (w:=w) pY k5
   simp only[Nat.sub_zero]at k1 k2
   have SU:bQ[i]?=I me:=by simpa using k2
   have hlen:i<bQ.size:=(Gn.1 SU).1
   refine done (pG es i v) (bQ.modify i fun e=>{ e with key:=a.eval y,val:=a.eval z }) clock ?_ bh ?_
   ·have:(bQ.modify i fun e=>{ e with key:=a.eval y,val:=a.eval z }).toList=bQ.toList.set i { me with key:=a.eval y,val:=a.eval z }:=by
     apply Sz
     intro j
     rw[Ga,Array.getElem?_modify,List.getElem?_set]
     by_cases vG:i=j
     ·subst vG
      have hgi:=(Gn.1 SU).2
      simp[hlen,hgi]
     ·simp[vG]
    rw[this]
    refine qy.ie (k:=kv) g2 hvr (fun k' eC=>?_)
    rw[k1]at eC
    cases eC
    exact gQ
   ·have fJ:=xk (P:=P) (x:=.map (bQ.modify i fun e=>{ e with key:=a.eval y,val:=a.eval z }) clock) g1 (by simp)
    have FE:∀w:World,(Instr.keyThatStays (((bQ[i]?).map (·.key)).getD (a.eval y)) (a.eval y)).run P w=.ok (a.eval y) w:=by
     intro w
     simp[Instr.keyThatStays,SU,k6]
    rcases ho with ho|ho<;>simp only[execOp,ho,Instr.mapUpdate,Sem.run_bind,run_underlying ht,Result.andThen_ok,lU,oT g1 (by simp),Dw hO,ux,FE,fJ,Sem.run_pure]
  ·have Sc:=FB pY hO gQ g2 hf
   have ux:=FC (w:=w) pY Sc
   refine done (es++[(kv,v)]) (bQ.push { key:=a.eval y,val:=a.eval z,born:=clock }) (clock+1) ?_ bh ?_
   ·rw[Array.toList_push]
    exact g2.push gQ hvr
   ·have fJ:=xk (P:=P) (x:=.map (bQ.push { key:=a.eval y,val:=a.eval z,born:=clock }) (clock+1)) g1 (by simp)
    rcases ho with ho|ho<;>simp only[execOp,ho,Instr.mapUpdate,Sem.run_bind,run_underlying ht,Result.andThen_ok,lU,oT g1 (by simp),Dw hO,ux,fJ,Sem.run_pure]
end
section
variable {P:Program}{C C0:ax}{ω:Nat→Option Loc}{w w' w0:World}{hp:j8}{env:Env}{a:Act}{o:Oper}{tmps:Array Value}{d:Loc}
theorem q0f {n sz len cap:Nat}{base:Option Addr}{cs:List Value}(hl:cs.length=n*sz)(h:∀ad,base=I ad→∀j v,cs[j]?=I v→w.cell? (ad.add j)=I v)(hn:base=El→n=0):
  (Builtin.firstCells sz n (.slice base len cap)).run P w=.ok cs.toArray w:=by
 cases base with
 |none=>
  have:cs=[]:=by
   have:=hn rfl
   subst this
   exact List.length_eq_zero_iff.1 (by simpa using hl)
  subst this
  exact run_firstCells_none _ _ _ _ _
 |some ad=>exact run_firstCells_some w _ _ _ _ _ cs hl (h ad rfl)
theorem jd6 (m:av P C ω w0 C0 hp w)(e:ai C ω w w0.heap.size env a.tmps){c:Call}{t:TypeId}{ts:List TypeId}{el:TypeId}{x y:Operand}{x' y':qf}{sz b q len n:Nat}{vy:qa}{us:List qa}{cs dX:List (qa×Bool)}{h':j8}
  (ho:o.op=.call c) (dA:c.callee=.builtin .copy) (dL:c.args.toList=[x,y]) (ea:c.argTypes.toList=t::ts) (ht:P.underlying t=I (.slice el)) (hn:yh P el=I sz)
  (h1:zr x=I x') (h2:zr y=I y') (e1:zd env x'=I (.ms b q len)) (e2:zd env y'=I vy) (kU:yl hp b=I cs) (cy:zy sz len vy=I (n,us)) (bO:yi cs q us=I dX) (Sg:us.length=n*sz) (bh:yj hp b (.cells dX)=I h'):
  ∃u w',(execOp a.eval o).run P w=.ok (.value u) w'∧kj P C0 w0 C a.tmps d env ⟨.int .i64 n,En,El,h'⟩ u w':=by
 obtain⟨r,cap,hr,hle,hq⟩:=(zt e.bU h1 e1).ey
 have ry:=zt e.bU h2 e2
 unfold yi at bO
 cases hb:(Nat.ble (q+us.length) cs.length&&us.all ze)with
 |false=>simp[hb]at bO
 |true=>
  simp only[hb,cT,I.injEq]at bO
  simp only[E5]at hb
  subst bO
  -- the source
  obtain⟨news,base,sl,sc,hy,cH,hcells,SV,pP⟩:∃news base sl sc,a.eval y=.slice base sl sc∧aK C us news∧(∀ad,base=I ad→∀j v,news[j]?=I v→w.cell? (ad.add j)=I v)∧Nat.min sl len=n∧(base=El→n=0):=by
   unfold zy at cy
   split at cy
   ·rename_i nn sy ys
    cases hk:(Gm sz sy||ys.isEmpty)with
    |false=>simp[hk]at cy
    |true=>
     simp only[hk,cT,I.injEq,Prod.mk.injEq]at cy
     obtain⟨rfl,rfl⟩:=cy
     generalize a.eval y=vv at ry
     cases ry with
     |iQ=>exact⟨[],El,0,0,rfl,by simpa using qp.nil,by simp,by simp[Nat.min_def],by simp⟩
     |iR _ ad _=>exact⟨[],I ad,0,0,rfl,by simpa using qp.nil,by simp,by simp,by simp⟩
     |list _ _ r' o' ke hl cM=>
      have hc:bZ C r' ((ys.take len).flatMap qa.flat) o':=aX.cells (aX.take len cM)
      obtain⟨vs,k1,k2⟩:=hc.vals
      refine⟨vs,I ⟨r',o',El⟩,ys.length,ke,rfl,k1,?_,rfl,by simp⟩
      intro ad had j v hj
      cases had
      rw[add_lit]
      exact m.know _ _ _ (k2 j v hj)
   ·cases cy
  have cI:=zM cH (by simpa using hb.2)
  obtain⟨vs,te,hg,cf,m',e'⟩:=q24 m e (vH kU) hr cH cI (Oh hb.1)
  obtain rfl:=zS bh
  have hfc:=q0f (P:=P) (w:=w) (n:=n) (sz:=sz) (len:=sl) (cap:=sc) (base:=base) (cs:=news) (by rw[cH.length,Sg]) hcells pP
  have FF:=run_storeCells_at (P:=P) r q te news 0 vs w hg (by simpa using cf) cI
  simp only[Nat.add_zero]at FF
  have bn:(Builtin.copy_ c.argTypes o.type (c.args.map a.eval)).run P w=.ok (goInt n) (w.setRow r (vs.toList.take q++news++vs.toList.drop (q+news.length)).toArray):=by
   have ha:c.args.map a.eval=#[a.eval x,a.eval y]:=by
    apply Gc;simp[dL]
   have hat:c.argTypes[0]?=I t:=by rw[←Ga,ea];rfl
   rw[ha]
   simp only[Builtin.copy_,hat,Gb,Hb,Ht,Sem.run_bind,run_underlying ht,Result.andThen_ok,hq,hy,Builtin.lenOf,Sem.run_pure,SV,iT hn,hfc,FF]
  refine⟨goInt n,_,?_,C,ω,ax.le_refl C,m',e',?_,by simp⟩
  ·have ha:Array.map a.eval c.args=#[a.eval x,a.eval y]:=by
    apply Gc;simp[dL]
   rw[ha]at bn
   simp[execOp,ho,resolve,dA,ha,invoke,builtin,bn]
  ·exact .int _ _
theorem qy.erase:∀ {es:List (qa×qa)} {ms:List MapEntry} (j:Nat),qy C es ms→qy C (es.eraseIdx j) (ms.eraseIdx j)
 |_,_,j,.nil=>by simpa using qy.nil
 |_,_,0,.cons k' v' es m' ms h1 h2 h3=>by simpa using h3
 |_,_,j+1,.cons k' v' es m' ms h1 h2 h3=>by simpa using .cons _ _ _ _ _ h1 h2 (qy.erase j h3)
theorem q9h (m:av P C ω w0 C0 hp w)(e:ai C ω w w0.heap.size env a.tmps){c:Call}{t kt el:TypeId}{ts:List TypeId}{x y:Operand}{x' y':qf}{kd:Kd}{kv:qa}{b:Nat}{es:List (qa×qa)}{h':j8}{r:Option (Nat×qa)}
  (ho:o.op=.call c) (dA:c.callee=.builtin .delete) (dL:c.args.toList=[x,y]) (ea:c.argTypes.toList=t::ts) (ht:P.underlying t=I (.map kt el)) (hO:jT P kt=I kd)
  (h1:zr x=I x') (h2:zr y=I y') (e1:zd env x'=I (.map b)) (e2:zd env y'=I kv) (hb:hp[b]?=I (.map es))
  (hf:yz kd kv es 0=I r) (bh:yj hp b (.map (q1p es r))=I h'):
  ∃u w',(execOp a.eval o).run P w=.ok (.value u) w'∧kj P C0 w0 C a.tmps d env ⟨.az [],En,El,h'⟩ u w':=by
 have gQ:=zt e.bU h2 e2
 have uw:=zt e.bU h1 e1
 obtain⟨td,pY⟩:=SR hO
 have ha:Array.map a.eval c.args=#[a.eval x,a.eval y]:=by
  apply Gc;simp[dL]
 have hat:c.argTypes[0]?=I t:=by rw[←Ga,ea];rfl
 generalize lU:a.eval x=mx at uw
 cases uw with
 |map _ q oc=>
  obtain⟨bQ,clock,g1,g2⟩:=m.box b _ q hb oc
  have aY:=(m.lt b q oc).1
  have done:∀(zZ:List (qa×qa)) (pZ:Array MapEntry),qy C zZ pZ.toList→yj hp b (.map zZ)=I h' →
    (Builtin.delete_ c.argTypes o.type #[.map (I q),a.eval y]).run P w=.ok (.tuple #[]) (jJ w q (.map pZ clock))→∃u w',(execOp a.eval o).run P w=.ok (.value u) w'∧kj P C0 w0 C a.tmps d env ⟨.az [],En,El,h'⟩ u w':=by
   intro zZ pZ vK bh bn
   obtain rfl:=zS bh
   have hu:=Dv (w:=w) (r:=q) (x:=.map pZ clock) aY (by simp)
   refine⟨.tuple #[],_,?_,C,ω,ax.le_refl C,m.dw hu oc _ (fun _ _ _ _ _ h=>h) ⟨pZ,clock,Fz aY,vK⟩,e.df hu oc,.az _ _ .nil,by simp⟩
   simp[execOp,ho,resolve,dA,ha,lU,invoke,builtin,bn]
  have hfn:=FB pY hO gQ g2 hf
  cases r with
  |none=>
   have ux:=FC (w:=w) pY hfn
   refine done es bQ g2 bh ?_
   have fJ:=xk (P:=P) (x:=.map bQ clock) g1 (by simp)
   simp only[Builtin.delete_,hat,Gb,Hb,Ht,Sem.run_bind,run_underlying ht,Result.andThen_ok,oT g1 (by simp),Dw hO,ux,fJ,Sem.run_pure]
  |some jv=>
   obtain⟨j,v⟩:=jv
   obtain⟨me,_,k1,k2,k3,k4,k5,k6⟩:=hfn
   have ux:=FC (w:=w) pY k5
   refine done (es.eraseIdx j) (bQ.eraseIdxIfInBounds j) ?_ bh ?_
   ·have:(bQ.eraseIdxIfInBounds j).toList=bQ.toList.eraseIdx j:=by simp
    rw[this];exact qy.erase j g2
   ·have fJ:=xk (P:=P) (x:=.map (bQ.eraseIdxIfInBounds j) clock) g1 (by simp)
    simp only[Builtin.delete_,hat,Gb,Hb,Ht,Sem.run_bind,run_underlying ht,Result.andThen_ok,oT g1 (by simp),Dw hO,ux,fJ,Sem.run_pure]
end
section
variable {P:Program}{p:qr}{xc:XC}{C C0:ax}{ω:Nat→Option Loc}{w w0:World}{hp:j8}{env:Env}{a:Act}{o:Oper}{d:Loc}{h:qb}{md:jc}{r h0:Nat}{dst:Option Nat}{al:Option (List Nat)}{cr:qw}{res:qq}
def dY (P:Program)(C C0:ax)(w0:World)(a:Act)(d:Loc)(env:Env)(o:Oper)(w:World)(res:qq):Prop:=
 (∃v w',(execOp a.eval o).run P w=.ok (.value v) w'∧kj P C0 w0 C a.tmps d env res v w') ∨
 (∃w',(execOp a.eval o).run P w=.ok .skip w'∧kj P C0 w0 C a.tmps d env res undef w') ∨
 (∃f args,(execOp a.eval o).run P w=.ok (.enter f args) w∧CallsIn Fence.wide 0 P f args w fun e w'=>∃v,e=.returned v∧kj P C0 w0 C a.tmps d env res v w') ∨
 (∃l f tmps assign body,(execOp a.eval o).run P w=.ok (.round l f tmps assign body) w∧RoundIn Fence.wide 0 P l f tmps assign body w fun e w'=>∃v,e=.returned v∧kj P C0 w0 C a.tmps d env res v w')
theorem yd (m:av P C ω w0 C0 hp w)(e:ai C ω w w0.heap.size env a.tmps){x:qa}(hv:Val P C a o w x):dY P C C0 w0 a d env o w ⟨x,En,El,hp⟩:=by
 obtain⟨v,h1,h2⟩:=hv
 exact .inl ⟨v,w,h1,q2b m e h2⟩
theorem zx {x:qa}(hs:val hp x=I res):res=⟨x,En,El,hp⟩:=by simpa[val]using hs.symm
theorem uy {x:Option qa}(hs:fY hp x=I res):∃v,x=I v∧res=⟨v,En,El,hp⟩:=by
 cases x with
 |none=>simp[fY]at hs
 |some v=>exact⟨v,rfl,by simpa[fY]using hs.symm⟩
theorem Mz (m:av P C ω w0 C0 hp w)(e:ai C ω w w0.heap.size env a.tmps){x:Operand}(ho:o.op=.move x∨o.op=.assign x){y:qf}(hc:zr x=I y)(hs:zi env hp (.move y)=I res):dY P C C0 w0 a d env o w res:=by
 simp only[zi]at hs
 obtain⟨v,hv,rfl⟩:=uy hs
 exact yd m e (jfj e.bU ho hc hv)
theorem q31 (m:av P C ω w0 C0 hp w)(e:ai C ω w w0.heap.size env a.tmps){s:Nat}(ho:o.op=.move (.tmp s)∨o.op=.assign (.tmp s))(hs:zi env hp (.take s)=I res):dY P C C0 w0 a d env o w res:=by
 simp only[zi]at hs
 split at hs
 ·rename_i v ow hl
  cases hs
  exact .inl (jht m e ho hl)
 ·cases hs
theorem jhr (m:av P C ω w0 C0 hp w)(e:ai C ω w w0.heap.size env a.tmps){x:Operand}(ho:o.op=.move x)(hc:cx P h md r dst (.move x)=I cr)(hs:za p xc h0 al env hp cr=I res):dY P C C0 w0 a d env o w res:=by
 simp only[cx]at hc
 split at hc
 ·rename_i s ht
  cases hc
  unfold q5x at ht
  split at ht
  ·split at ht
   ·cases ht;exact q31 m e (.inl ho) hs
   ·cases ht
  ·cases ht
 ·obtain⟨y,hy,rfl⟩:=Eh.1 hc
  exact Mz m e (.inl ho) hy hs
theorem q7j (m:av P C ω w0 C0 hp w)(e:ai C ω w w0.heap.size env a.tmps){x:Operand}(ho:o.op=.assign x)(hc:cx P h md r dst (.assign x)=I cr)(hs:za p xc h0 al env hp cr=I res):dY P C C0 w0 a d env o w res:=by
 cases x with
 |tmp s=>simp only[cx]at hc;cases hc;exact q31 m e (.inr ho) hs
 |const v=>simp only[cx]at hc;obtain⟨y,hy,rfl⟩:=Eh.1 hc;exact Mz m e (.inr ho) hy hs
 |func v=>simp only[cx]at hc;obtain⟨y,hy,rfl⟩:=Eh.1 hc;exact Mz m e (.inr ho) hy hs
 |global v=>simp only[cx]at hc;obtain⟨y,hy,rfl⟩:=Eh.1 hc;exact Mz m e (.inr ho) hy hs
theorem jex (m:av P C ω w0 C0 hp w)(e:ai C ω w w0.heap.size env a.tmps){c x y:Operand}(ho:o.op=.pick c x y)(hc:cx P h md r dst (.pick c x y)=I cr)(hs:za p xc h0 al env hp cr=I res):dY P C C0 w0 a d env o w res:=by
 simp only[cx]at hc
 split at hc
 ·rename_i c' x' y' h1 h2 h3
  cases hc
  simp only[za,zi]at hs
  split at hs
  ·rename_i b e1
   split at hs
   ·rename_i u v e2 e3
    obtain rfl:=zx hs
    exact yd m e (jfs e.bU ho h1 h2 h3 e1 e2 e3)
   ·cases hs
  ·cases hs
 ·cases hc
theorem q2l (m:av P C ω w0 C0 hp w)(e:ai C ω w w0.heap.size env a.tmps){x:Operand}(ho:o.op=.nilCheck x)(hc:cx P h md r dst (.nilCheck x)=I cr)(hs:za p xc h0 al env hp cr=I res):dY P C C0 w0 a d env o w res:=by
 simp only[cx]at hc
 obtain⟨y,hy,rfl⟩:=Eh.1 hc
 simp only[za,zi]at hs
 split at hs
 ·rename_i b q hv;obtain rfl:=zx hs;exact yd m e (qq2 e.bU ho hy hv (.inl ⟨_,_,rfl⟩))
 ·rename_i z hv;obtain rfl:=zx hs;exact yd m e (qq2 e.bU ho hy hv (.inr ⟨_,rfl⟩))
 ·rename_i f u v hv
  obtain rfl:=zx hs
  have hr:=zt e.bU hy hv
  refine yd m e ⟨a.eval x,?_,hr⟩
  generalize hx:a.eval x=ev at hr
  cases hr with
  |fn f f' u v as bs hf ha hb=>
   simp only[eY]at hf
   subst hf
   simp[execOp,ho,hx]
 ·cases hs
theorem jsj (m:av P C ω w0 C0 hp w)(e:ai C ω w w0.heap.size env a.tmps){op:UnOp}{t:TypeId}{x:Operand}(ho:o.op=.unOp op t x)(hc:cx P h md r dst (.unOp op t x)=I cr)(hs:za p xc h0 al env hp cr=I res):dY P C C0 w0 a d env o w res:=by
 simp only[cx]at hc
 obtain⟨y,hy,rfl⟩:=Eh.1 hc
 simp only[za,zi]at hs
 split at hs
 ·rename_i v hv
  obtain⟨u,hu,rfl⟩:=uy hs
  exact yd m e (jp7 e.bU ho hy hv hu)
 ·cases hs
theorem jgx (m:av P C ω w0 C0 hp w)(e:ai C ω w w0.heap.size env a.tmps){s t:TypeId}{x:Operand}(ho:o.op=.convert s t x)(hc:cx P h md r dst (.convert s t x)=I cr)(hs:za p xc h0 al env hp cr=I res):dY P C C0 w0 a d env o w res:=by
 simp only[cx]at hc
 split at hc
 ·rename_i k0 k u1 u2
  obtain⟨y,hy,rfl⟩:=Eh.1 hc
  simp only[za,zi]at hs
  split at hs
  ·rename_i k1 n hv
   obtain rfl:=zx hs
   exact yd m e (je9 e.bU ho u1 u2 hy hv)
  ·cases hs
 ·rename_i u1 u2
  obtain⟨y,hy,rfl⟩:=Eh.1 hc
  simp only[za,zi]at hs
  split at hs
  ·rename_i l hv
   obtain rfl:=zx hs
   exact yd m e (q5c e.bU ho u1 u2 hy hv ⟨_,rfl⟩)
  ·rename_i k1 n hv
   obtain rfl:=zx hs
   exact yd m e (q3h e.bU ho u1 u2 hy hv)
  ·cases hs
 ·rename_i k0 u1 u2
  obtain⟨y,hy,rfl⟩:=Eh.1 hc
  simp only[za,zi]at hs
  split at hs
  ·rename_i l hv
   obtain rfl:=zx hs
   exact yd m e (q1j e.bU ho u1 u2 hy hv ⟨_,rfl⟩)
  ·rename_i k1 n hv
   obtain rfl:=zx hs
   exact yd m e (q48 e.bU ho u1 u2 hy hv)
  ·cases hs
 ·cases hc
theorem q6e {ag:Bool}{n:Nat}{y:qf}(hs:zi env hp (.eT ag n y)=I res):gZ h0 al env hp (.load ag n y)=I res:=by
 simp only[zi]at hs
 simp only[gZ]
 split at hs
 ·rename_i v hv
  rw[hv];exact hs
 ·cases hs
theorem qzp {g:Nat}:∀ {l:List (String×List Int)} {cs:List Int},EZ P g l=I cs→∃n,(n,cs)∈l∧P.globalNamed n=I g
 | [],_,h=>by simp[EZ]at h
 |(n,ds)::l,cs,h=>by
  simp only[EZ]at h
  split at h
  ·rename_i hn
   cases h
   exact⟨n,Si ..,by simpa using hn⟩
  ·obtain⟨n',h1,h2⟩:=qzp h
   exact⟨n',Oj _ h1,h2⟩
theorem jce {ns:List Int}:aK C (ns.map (qa.int .i64)) (ns.map (Value.int .i64)):=by
 induction ns with
 |nil=>exact .nil
 |cons n ns ih=>exact .cons _ _ _ _ (.int _ _) ih
theorem jas (m:av P C ω w0 C0 hp w)(e:ai C ω w w0.heap.size env a.tmps){t:TypeId}{g:Nat}(ho:o.op=.load t (.global g))(hc:cx P h md r dst (.load t (.global g))=I cr)(hs:za p xc h0 al env hp cr=I res):dY P C C0 w0 a d env o w res:=by
 have hc:Ma P t g=I cr:=hc
 unfold Ma at hc
 split at hc
 ·rename_i cs n hf hg hn
  split at hc
  ·rename_i hl
   cases hc
   have hl:cs.length=n:=by simpa using hl
   simp only[za,zi,zd]at hs
   obtain⟨u,hu,rfl⟩:=uy hs
   cases hu
   obtain⟨nm,cR,hnm⟩:=qzp hf
   have ht:=(m.tabs g (.inr (.inr ⟨_,cR,hnm⟩))).2.2.2 _ cR hnm
   have dH:∀j v,(cs.map (Value.int .i64))[j]?=I v→w.cell? ⟨g,0+j,El⟩=I v:=by
    intro j v hj
    rw[Ml,Eh]at hj
    obtain⟨i,hi,rfl⟩:=hj
    rw[Sx]
    exact ht j i hi
   have FG:=Fo (P:=P) (w:=w) hg hn (vs:=cs.map (Value.int .i64)) (by simpa using hl) dH
   refine yd m e ⟨.agg ⟨cs.map (Value.int .i64)⟩,?_,.agg _ _ jce⟩
   have gC:a.eval (.global g)=.pointer (I ⟨g,0,El⟩):=rfl
   simp[execOp,ho,Instr.loadAt,gC,Instr.sureAddr,FG]
  ·cases hc
 ·cases hc
theorem jge (m:av P C ω w0 C0 hp w)(e:ai C ω w w0.heap.size env a.tmps){t:TypeId}{x:Operand}(ho:o.op=.load t x)(hc:cx P h md r dst (.load t x)=I cr)(hs:za p xc h0 al env hp cr=I res):dY P C C0 w0 a d env o w res:=by
 have key:∀ {ag:Bool} {n:Nat} {y:qf},fg P t=I ag→yh P t=I n→(ag=En→n=1)→zr x=I y→gZ h0 al env hp (.load ag n y)=I res→dY P C C0 w0 a d env o w res:=by
  intro ag n y hg hn Fq hy hs
  simp only[gZ]at hs
  split at hs
  ·rename_i b q hv
   cases hk:yw h0 al b with
   |false=>simp[hk]at hs
   |true=>
    simp only[hk,cT]at hs
    split at hs
    ·rename_i cs hcs
     split at hs
     ·rename_i us fT
      cases ag with
      |true=>
       simp only[cT]at hs
       obtain rfl:=zx hs
       exact yd m e (Sy m e.bU ho hg hn Fq hy hv (.inl ⟨b,q,cs,us,rfl,hcs,fT,.inl ⟨rfl,rfl⟩⟩))
      |false=>
       simp only[cond_false]at hs
       split at hs
       ·obtain rfl:=zx hs
        exact yd m e (Sy m e.bU ho hg hn Fq hy hv (.inl ⟨b,q,cs,_,rfl,hcs,fT,.inr ⟨rfl,rfl⟩⟩))
       ·cases hs
     ·cases hs
    ·cases hs
  ·rename_i z hv
   cases hk:(Bool.xor ag z.isAgg||!(Gm z.flat.length n))with
   |true=>simp[hk]at hs
   |false=>
    simp only[hk,cond_false]at hs
    obtain rfl:=zx hs
    simp only[Bool.or_eq_false_iff,Bool.not_eq_false']at hk
    exact yd m e (Sy m e.bU ho hg hn Fq hy hv (.inr ⟨rfl,hk.1,Eo hk.2⟩))
  ·rename_i b bu q hv
   cases hk:ug h0 al b with
   |false=>simp[hk]at hs
   |true=>
    simp only[hk,cT]at hs
    split at hs
    ·rename_i sz dc xs gf
     cases cV:(Gm bu dc&&Nat.ble (q+n) (xs.flatMap qa.flat).length)with
     |false=>rw[cV]at hs;cases hs
     |true=>
      rw[cV]at hs
      simp only[cT]at hs
      simp only[E5]at cV
      obtain rfl:=Eo cV.1
      have hl:=Oh cV.2
      cases ag with
      |true=>
       simp only[cT]at hs
       obtain rfl:=zx hs
       exact yd m e (qz0 m e.bU ho hg hn hy hv gf hl (.inl ⟨rfl,rfl⟩))
      |false=>
       simp only[cond_false]at hs
       split at hs
       ·rename_i z hz
        obtain rfl:=zx hs
        exact yd m e (qz0 m e.bU ho hg hn hy hv gf hl (.inr ⟨rfl,hz⟩))
       ·cases hs
    ·cases hs
  ·cases hs
 by_cases hx:∃g,x=.global g
 ·obtain⟨g,rfl⟩:=hx
  exact jas m e ho hc hs
 have hc:(match fg P t,yh P t,zr x with
  |some En,I 1,I x=>if(dst.map (h.takes.contains ·)).getD En then I (qw.b8 ((dst.bind fun d=>h.bE.find? fun y=>y.1 == d).map (·.2)) x)else I (bif (dst.map (h.vl.contains ·)).getD En then .eT En 1 x else .load En 1 x)
  |some E6,I n,I x=>I (bif (dst.map (h.vl.contains ·)).getD En then .eT E6 n x else .load E6 n x)
  |_,_,_=>El)=I cr:=by
  cases x with
  |global g=>exact absurd ⟨g,rfl⟩ hx
  |_=>exact hc
 split at hc
 ·rename_i y hg hn hy
  split at hc
  ·cases hc
   simp only[za,zk]at hs
   split at hs
   ·rename_i b q hv
    generalize (yw h0 al b&&uh _ q)=kk at hs
    cases kk with
    |false=>simp at hs
    |true=>
     simp only[cT]at hs
     split at hs
     ·rename_i cs hcs
      split at hs
      ·rename_i v ow hq
       split at hs
       ·rename_i h' bh
        cases hs
        exact .inl (q2m m e ho hg hy hv hcs hq bh)
       ·cases hs
      ·cases hs
     ·cases hs
   ·cases hs
  ·cases hc
   generalize (dst.map (h.vl.contains ·)).getD En=bb at hs
   cases bb with
   |false=>exact key hg hn (fun _=>rfl) hy hs
   |true=>exact key hg hn (fun _=>rfl) hy (q6e hs)
 ·rename_i n y hg hn hy
  cases hc
  generalize (dst.map (h.vl.contains ·)).getD En=bb at hs
  cases bb with
  |false=>exact key hg hn (by simp) hy hs
  |true=>exact key hg hn (by simp) hy (q6e hs)
 ·cases hc
theorem jcb (m:av P C ω w0 C0 hp w)(e:ai C ω w w0.heap.size env a.tmps){t:TypeId}{x y:Operand}(ho:o.op=.store t x y)(mL:cr.gM=El)(hc:cx P h md r dst (.store t x y)=I cr)(hs:za p xc h0 al env hp cr=I res):dY P C C0 w0 a d env o w res:=by
 simp only[cx]at hc
 split at hc
 ·rename_i n x' y' hn h1 h2
  cases lx:Mb h x' with
  |some s=>rw[lx]at hc;simp only[I.injEq]at hc;subst hc;simp[qw.gM]at mL
  |none=>
  rw[lx]at hc
  simp only[I.injEq]at hc
  subst hc
  simp only[za,zk]at hs
  split at hs
  ·rename_i b q v e1 e2
   cases hk:yw h0 al b with
   |false=>simp[hk]at hs
   |true=>
    simp only[hk,cT]at hs
    split at hs
    ·rename_i cs hcs
     split at hs
     ·rename_i s cB
      cases hb:(Gm n 1&&v.cu&&Nat.blt q cs.length)with
      |false=>simp[hb]at hs
      |true=>
       simp only[hb,cT]at hs
       simp only[E5]at hb
       obtain⟨⟨kT,ly⟩,FH⟩:=hb
       obtain rfl:=Eo kT
       split at hs
       ·rename_i h' bh
        cases hs
        exact .inr (.inl (q1g m e ho hn h1 h2 e1 e2 hcs ly (Te.mp FH) cB bh))
       ·cases hs
     ·cases hb:Gm v.flat.length n with
      |false=>simp[hb]at hs
      |true=>
       simp only[hb,cT]at hs
       split at hs
       ·rename_i dX bO
        split at hs
        ·rename_i h' bh
         obtain rfl:=zx hs
         exact .inr (.inl (jat m e ho hn h1 h2 e1 e2 hcs (Eo hb) bO bh))
        ·cases hs
       ·cases hs
    ·cases hs
  ·cases hs
 ·cases hc
theorem jb0 {P:Program}{t:TypeId}{e:TypeId}(h:RZ P t=I e):∃sz,ek P t=I [.bN,.list E6 sz []]:=by
 unfold RZ at h
 split at h
 ·split at h
  ·split at h
   ·split at h
    ·rename_i sz h1 h2
     exact⟨_,h2⟩
    ·cases h
   ·cases h
  ·cases h
 ·cases h
theorem jaa (m:av P C ω w0 C0 hp w)(e:ai C ω w w0.heap.size env a.tmps){t:TypeId}(ho:o.op=.alloc t)(hc:cx P h md r dst (.alloc t)=I cr)(hs:za p xc h0 al env hp cr=I res):dY P C C0 w0 a d env o w res:=by
 simp only[cx]at hc
 split at hc
 ·rename_i e' he
  cases hc
  obtain⟨sz,hz⟩:=jb0 he
  simp only[za,zk]at hs
  split at hs
  ·rename_i h' hn
   obtain rfl:=zx hs
   exact .inl (jkw m e ho hz hn)
  ·cases hs
 generalize (dst.map (h.vl.contains ·)).getD En=bb at hc
 cases bb with
 |true=>
  simp only[cT]at hc
  split at hc
  ·rename_i z hz
   cases hb:z.all ze with
   |false=>rw[hb]at hc;cases hc
   |true=>
    rw[hb]at hc
    simp only[cT,I.injEq]at hc
    subst hc
    simp only[za,zi,I.injEq]at hs
    subst hs
    exact .inl (q75 m e ho hz)
  ·cases hc
 |false=>
 simp only[cond_false]at hc
 obtain⟨z,hz,rfl⟩:=Eh.1 hc
 simp only[za,zk]at hs
 cases hb:z.all ze with
 |false=>simp[hb]at hs
 |true=>
  simp only[hb,cT]at hs
  split at hs
  ·rename_i h' hn
   obtain rfl:=zx hs
   exact .inl (jbm m e ho hz (by simpa using hb) hn)
  ·cases hs
theorem jkj (m:av P C ω w0 C0 hp w)(e:ai C ω w w0.heap.size env a.tmps){t:TypeId}{x:Operand}(ho:o.op=.box t x)(hc:cx P h md r dst (.box t x)=I cr)(hs:za p xc h0 al env hp cr=I res):dY P C C0 w0 a d env o w res:=by
 simp only[cx]at hc
 split at hc
 ·rename_i n x' hn h1
  cases hc
  generalize (dst.map (h.vl.contains ·)).getD En=bb at hs
  cases bb with
  |true=>
   simp only[cT,za,zi]at hs
   split at hs
   ·rename_i v hv
    cases hb:(Gm v.flat.length n&&v.flat.all ze)with
    |false=>simp[hb]at hs
    |true=>
     simp only[hb,cT]at hs
     simp only[E5]at hb
     obtain rfl:=zx hs
     exact .inl (je4 m e ho h1 hv hb.2)
   ·cases hs
  |false=>
   simp only[cond_false]at hs
   simp only[za,zk]at hs
   split at hs
   ·rename_i v hv
    cases hb:(Gm v.flat.length n&&v.flat.all ze)with
    |false=>simp[hb]at hs
    |true=>
     simp only[hb,cT]at hs
     simp only[E5]at hb
     split at hs
     ·rename_i h' iK
      obtain rfl:=zx hs
      exact .inl (jkr m e ho h1 hv hb.2 iK)
     ·cases hs
   ·cases hs
 ·cases hc
theorem q40 (m:av P C ω w0 C0 hp w)(e:ai C ω w w0.heap.size env a.tmps){i:Nat}{x:Operand}(ho:o.op=.extract x i)(hc:cx P h md r dst (.extract x i)=I cr)(hs:za p xc h0 al env hp cr=I res):dY P C C0 w0 a d env o w res:=by
 simp only[cx]at hc
 obtain⟨y,hy,rfl⟩:=Eh.1 hc
 simp only[za,zi]at hs
 split at hs
 ·rename_i vs hv
  obtain⟨u,hu,rfl⟩:=uy hs
  exact yd m e (q5n e.bU ho hy hv hu)
 ·cases hs
theorem q1c (m:av P C ω w0 C0 hp w)(e:ai C ω w w0.heap.size env a.tmps){f:Fn}{xs ys:Array Operand}(ho:o.op=.makeFunc f xs ys)(hc:cx P h md r dst (.makeFunc f xs ys)=I cr)(hs:za p xc h0 al env hp cr=I res):dY P C C0 w0 a d env o w res:=by
 simp only[cx]at hc
 split at hc
 ·split at hc
  ·rename_i k fq nz h1 h2
   cases hc
   simp only[za,zi]at hs
   split at hs
   ·rename_i us vs e1 e2
    obtain rfl:=zx hs
    exact yd m e (q9w e.bU ho h1 h2 e1 e2)
   ·cases hs
  ·cases hc
 ·cases hc
theorem q5h (m:av P C ω w0 C0 hp w)(e:ai C ω w w0.heap.size env a.tmps){t:TypeId}{x:Option Operand}(ho:o.op=.makeMap t x)(hc:cx P h md r dst (.makeMap t x)=I cr)(hs:za p xc h0 al env hp cr=I res):dY P C C0 w0 a d env o w res:=by
 cases x with
 |some x=>simp[cx]at hc
 |none=>
  simp only[cx]at hc
  split at hc
  ·cases hc
   simp only[za,zk]at hs
   split at hs
   ·rename_i h' hn
    obtain rfl:=zx hs
    exact .inl (jcd m e ho hn)
   ·cases hs
  ·cases hc
theorem jbf (m:av P C ω w0 C0 hp w)(e:ai C ω w w0.heap.size env a.tmps){t:TypeId}{x:Operand}(ho:o.op=.range t x)(hc:cx P h md r dst (.range t x)=I cr)(hs:za p xc h0 al env hp cr=I res):dY P C C0 w0 a d env o w res:=by
 simp only[cx]at hc
 split at hc
 ·rename_i ht
  obtain⟨y,hy,rfl⟩:=Eh.1 hc
  simp only[za,zk]at hs
  split at hs
  ·rename_i s hv
   split at hs
   ·rename_i h' hn
    obtain rfl:=zx hs
    exact .inl (q9s m e ho ht hy hv hn)
   ·cases hs
  ·cases hs
 ·cases hc
theorem jhv (m:av P C ω w0 C0 hp w)(e:ai C ω w w0.heap.size env a.tmps){x:Operand}{b:Bool}(ho:o.op=.next x b)(hc:cx P h md r dst (.next x b)=I cr)(hs:za p xc h0 al env hp cr=I res):dY P C C0 w0 a d env o w res:=by
 cases b with
 |false=>simp[cx]at hc
 |true=>
  simp only[cx]at hc
  obtain⟨y,hy,rfl⟩:=Eh.1 hc
  simp only[za,zk]at hs
  split at hs
  ·rename_i b hv
   cases hk:yw h0 al b with
   |false=>simp[hk]at hs
   |true=>
    simp only[hk,cT]at hs
    split at hs
    ·rename_i s pos hb
     obtain⟨k1,k2⟩:=q99 (d:=d) m e ho hy hv hb
     cases hp:Nat.blt pos s.length with
     |true=>
      simp only[hp,cT]at hs
      split at hs
      ·rename_i h' bh
       obtain rfl:=zx hs
       exact .inl (k1 (Te.mp hp) h' bh)
      ·cases hs
     |false=>
      simp only[hp,cond_false]at hs
      obtain rfl:=zx hs
      exact .inl (k2 (fun h=>by rw[Te.mpr h]at hp;cases hp))
    ·cases hs
  ·cases hs
theorem q82 (m:av P C ω w0 C0 hp w)(e:ai C ω w w0.heap.size env a.tmps){t:TypeId}{x y:Operand}{ok:Bool}(ho:o.op=.lookup t x y ok)(hc:cx P h md r dst (.lookup t x y ok)=I cr)(hs:za p xc h0 al env hp cr=I res):dY P C C0 w0 a d env o w res:=by
 simp only[cx]at hc
 split at hc
 ·rename_i kt el ht
  split at hc
  ·rename_i kd z x' y' hO hz h1 h2
   cases hc
   simp only[za,gZ]at hs
   split at hs
   ·rename_i b kv e1 e2
    cases hk:yw h0 al b with
    |false=>simp[hk]at hs
    |true=>
     simp only[hk,cT]at hs
     split at hs
     ·rename_i es hb
      split at hs
      ·rename_i i v hf
       obtain rfl:=zx hs
       exact yd m e (SS m e ho ht hO hz h1 h2 e1 e2 (.inr ⟨b,es,rfl,hb,hf⟩))
      ·rename_i hf
       obtain rfl:=zx hs
       exact yd m e (SS m e ho ht hO hz h1 h2 e1 e2 (.inr ⟨b,es,rfl,hb,hf⟩))
      ·cases hs
     ·cases hs
   ·rename_i kv e1 e2
    obtain rfl:=zx hs
    exact yd m e (SS m e ho ht hO hz h1 h2 e1 e2 (.inl ⟨rfl,rfl⟩))
   ·cases hs
  ·cases hc
 ·cases hc
theorem qpy (m:av P C ω w0 C0 hp w)(e:ai C ω w w0.heap.size env a.tmps){t:TypeId}{x y z:Operand}(ho:o.op=.mapUpdate t x y z∨o.op=.insert t x y z)(hc:cx P h md r dst (.mapUpdate t x y z)=I cr)(hs:za p xc h0 al env hp cr=I res):dY P C C0 w0 a d env o w res:=by
 simp only[cx]at hc
 split at hc
 ·rename_i kt el ht
  split at hc
  ·rename_i kd x' y' z' hO h1 h2 h3
   cases hc
   simp only[za,zk]at hs
   split at hs
   ·rename_i b kv v e1 e2 e3
    cases hk:yw h0 al b with
    |false=>simp[hk]at hs
    |true=>
     simp only[hk,cT]at hs
     split at hs
     ·rename_i es hb
      split at hs
      ·rename_i i u hf
       split at hs
       ·rename_i h' bh
        obtain rfl:=zx hs
        exact .inr (.inl (qpx m e ho ht hO h1 h2 h3 e1 e2 e3 hb (.inl ⟨i,u,hf,bh⟩)))
       ·cases hs
      ·rename_i hf
       cases hl:Nat.ble es.length 1073741824 with
       |false=>simp[hl]at hs
       |true=>
        simp only[hl,cT]at hs
        split at hs
        ·rename_i h' bh
         obtain rfl:=zx hs
         exact .inr (.inl (qpx m e ho ht hO h1 h2 h3 e1 e2 e3 hb (.inr ⟨hf,bh⟩)))
        ·cases hs
      ·cases hs
     ·cases hs
   ·cases hs
  ·cases hc
 ·cases hc
end
section
variable {P:Program}{p:qr}{xc:XC}{C C0:ax}{ω:Nat→Option Loc}{w w0:World}{hp:j8}{env:Env}{a:Act}{o:Oper}{d:Loc}{h:qb}{md:jc}{r h0:Nat}{dst:Option Nat}{al:Option (List Nat)}{cr:qw}{res:qq}
theorem uz (w:World){d:Nat}{t:TypeId}{x y:Value}{b:Bool}{u:TypeDesc}(h:(∃e,u=.slice e∧y=.slice El 0 0∧∃q l c,x=.slice q l c∧b=q.isNone)∨(∃e,u=.pointer e∧y=.pointer El∧∃q,x=.pointer q∧b=q.isNone) ∨
  (∃k e,u=.map k e∧y=.map El∧∃q,x=.map q∧b=q.isNone)∨(∃k e v,u=.func k e v∧y=.nilFunc∧((x=.nilFunc∧b=E6)∨∃f i j,x=.func f i j∧b=En))) (ht:P.underlying t=I u):
  (Op.equalIn (d+1) t x y).run P w=.ok b w:=by
 rcases h with⟨e,rfl,rfl,q,l,c,rfl,rfl⟩|⟨e,rfl,rfl,q,rfl,rfl⟩|⟨k,e,rfl,rfl,q,rfl,rfl⟩|⟨k,e,v,rfl,rfl,⟨rfl,rfl⟩|⟨f,i,j,rfl,rfl⟩⟩
 ·cases q<;>simp[Op.equalIn,run_underlying ht]
 ·cases q<;>simp[Op.equalIn,run_underlying ht]
 ·cases q<;>simp[Op.equalIn,run_underlying ht]
 ·simp[Op.equalIn,run_underlying ht]
 ·simp[Op.equalIn,run_underlying ht]
theorem uA (m:av P C ω w0 C0 hp w)(e:ai C ω w w0.heap.size env a.tmps){op:BinOp}{t u:TypeId}{x y:Operand}{neq b:Bool}{c:Value}(ho:o.op=.binOp op t x y u)(hop:op=if neq then .neq else .eql)(hy:a.eval y=c)
  (br:(∀k n,a.eval x≠.int k n)∧(∀s,a.eval x≠.string s)∧(∀k n,a.eval x≠.float k n)∧(∀k n m,a.eval x≠.complex k n m)) (cL:∀cs,a.eval x≠.agg cs) (Sl:a.eval x≠.nilIface)
  (hq:(Op.equal t (a.eval x) c).run P w=.ok b w) {z:Bool} (hz:z=bif neq then !b else b):dY P C C0 w0 a d env o w ⟨.bool z,En,El,hp⟩:=by
 subst hz
 exact yd m e (jay ho hop hy br cL Sl hq)
theorem MA (m:av P C ω w0 C0 hp w)(e:ai C ω w w0.heap.size env a.tmps){op:BinOp}{t u:TypeId}{x y:Operand}{y':qf}{neq:Bool}{k:Nat}{c:Value}(ho:o.op=.binOp op t x y u)(hop:op=if neq then .neq else .eql)(hx:zr x=I y')(hy:y=.const c)
  (hk:(k=0∧(∃el,P.underlying t=I (.slice el))∧c=.slice El 0 0)∨(k=1∧(∃el,P.underlying t=I (.pointer el))∧c=.pointer El)∨(k=2∧(∃k v,P.underlying t=I (.map k v))∧c=.map El)∨(k=3∧(∃a b c,P.underlying t=I (.func a b c))∧c=.nilFunc))
  (hs:za p xc h0 al env hp (.eU k neq y')=I res):dY P C C0 w0 a d env o w res:=by
 have oU:a.eval y=c:=by subst hy;simp[Act.eval]
 rcases hk with⟨rfl,⟨el,ht⟩,rfl⟩|⟨rfl,⟨el,ht⟩,rfl⟩|⟨rfl,⟨k,el,ht⟩,rfl⟩|⟨rfl,⟨k,el,q,ht⟩,rfl⟩
 ·simp only[za,zi]at hs
  split at hs<;>first|(exfalso;omega)|skip
  ·rename_i n sz xs _ hv
   obtain rfl:=zx hs
   rcases(zt e.bU hx hv).cG with⟨rfl,rfl,h1⟩|⟨h1,r,q,cap,h2,_⟩|⟨h1,_,ad,_,h2⟩
   ·exact uA m e ho hop oU (by simp[h1]) (by simp[h1]) (by simp[h1]) (b:=true) (by rw[h1];exact uz w (d:=9999) (by simp) ht) (by cases neq<;>rfl)
   all_goals
    subst h1
    exact uA m e ho hop oU (by simp[h2]) (by simp[h2]) (by simp[h2]) (b:=false) (by rw[h2];exact uz w (d:=9999) (by simp) ht) (by cases neq<;>rfl)
  ·rename_i b q n _ hv
   obtain rfl:=zx hs
   have hr:=zt e.bU hx hv
   generalize h2:a.eval x=ev at hr
   cases hr with
   |ms b o len r cap hb hl=>
    exact uA m e ho hop oU (by simp[h2]) (by simp[h2]) (by simp[h2]) (b:=false) (by rw[h2];exact uz w (d:=9999) (by simp) ht) (by cases neq<;>rfl)
  ·cases hs
 ·simp only[za,zi]at hs
  split at hs<;>first|(exfalso;omega)|skip
  ·rename_i _ hv
   obtain rfl:=zx hs
   have hr:=zt e.bU hx hv
   generalize h2:a.eval x=ev at hr
   cases hr
   exact uA m e ho hop oU (by simp[h2]) (by simp[h2]) (by simp[h2]) (b:=true) (by rw[h2];exact uz w (d:=9999) (by simp) ht) (by cases neq<;>rfl)
  ·rename_i _ hv
   obtain rfl:=zx hs
   obtain⟨r,hr,h2⟩:=(zt e.bU hx hv).cU
   exact uA m e ho hop oU (by simp[h2]) (by simp[h2]) (by simp[h2]) (b:=false) (by rw[h2];exact uz w (d:=9999) (by simp) ht) (by cases neq<;>rfl)
  ·rename_i _ hv
   obtain rfl:=zx hs
   obtain⟨r,q,h2,_⟩:=(zt e.bU hx hv).ew
   exact uA m e ho hop oU (by simp[h2]) (by simp[h2]) (by simp[h2]) (b:=false) (by rw[h2];exact uz w (d:=9999) (by simp) ht) (by cases neq<;>rfl)
  ·cases hs
 ·simp only[za,zi]at hs
  split at hs<;>first|(exfalso;omega)|skip
  ·rename_i _ hv
   obtain rfl:=zx hs
   have hr:=zt e.bU hx hv
   generalize h2:a.eval x=ev at hr
   cases hr
   exact uA m e ho hop oU (by simp[h2]) (by simp[h2]) (by simp[h2]) (b:=true) (by rw[h2];exact uz w (d:=9999) (by simp) ht) (by cases neq<;>rfl)
  ·rename_i _ hv
   obtain rfl:=zx hs
   have hr:=zt e.bU hx hv
   generalize h2:a.eval x=ev at hr
   cases hr
   exact uA m e ho hop oU (by simp[h2]) (by simp[h2]) (by simp[h2]) (b:=false) (by rw[h2];exact uz w (d:=9999) (by simp) ht) (by cases neq<;>rfl)
  ·cases hs
 ·simp only[za,zi]at hs
  split at hs<;>first|(exfalso;omega)|skip
  ·rename_i _ hv
   obtain rfl:=zx hs
   have hr:=zt e.bU hx hv
   generalize h2:a.eval x=ev at hr
   cases hr
   exact uA m e ho hop oU (by simp[h2]) (by simp[h2]) (by simp[h2]) (b:=true) (by rw[h2];exact uz w (d:=9999) (by simp) ht) (by cases neq<;>rfl)
  ·rename_i _ hv
   obtain rfl:=zx hs
   have hr:=zt e.bU hx hv
   generalize h2:a.eval x=ev at hr
   cases hr
   exact uA m e ho hop oU (by simp[h2]) (by simp[h2]) (by simp[h2]) (b:=false) (by rw[h2];exact uz w (d:=9999) (by simp) ht) (by cases neq<;>rfl)
  ·cases hs
theorem SW (m:av P C ω w0 C0 hp w)(e:ai C ω w w0.heap.size env a.tmps){op:BinOp}{t u:TypeId}{x y:Operand}{x' y':qf}(ho:o.op=.binOp op t x y u)(h1:zr x=I x')(h2:zr y=I y')(hs:za p xc h0 al env hp (.bin op x' y')=I res):dY P C C0 w0 a d env o w res:=by
 simp only[za,zi]at hs
 split at hs
 ·rename_i u v e1 e2
  obtain⟨z,hz,rfl⟩:=uy hs
  exact yd m e (jl3 e.bU ho h1 h2 e1 e2 hz)
 ·cases hs
theorem qwp (m:av P C ω w0 C0 hp w)(e:ai C ω w w0.heap.size env a.tmps){op:BinOp}{t u:TypeId}{x y:Operand}{neq:Bool}(ho:o.op=.binOp op t x y u)(hop:op=if neq then .neq else .eql)(hc:Dj P op neq t x y=I cr)(hs:za p xc h0 al env hp cr=I res):dY P C C0 w0 a d env o w res:=by
 have dB:Dj P op neq t x y=I cr:=hc
 unfold Dj at dB
 have eqs:∀ {ks:List Kd} {x' y':qf},fg P t=I E6→P.eqGuardType P.depth t=En→uj P L9 t=I ks→zr x=I x'→zr y=I y'→za p xc h0 al env hp (.eqs ks neq x' y')=I res→dY P C C0 w0 a d env o w res:=by
  intro ks x' y' cL hg hk h1 h2 hs
  simp only[za,zi]at hs
  split at hs
  ·rename_i u v e1 e2
   cases hb:(Gm u.length ks.length&&Gm v.length ks.length)with
   |false=>simp[hb]at hs
   |true=>
    simp only[hb,cT]at hs
    simp only[E5]at hb
    split at hs
    ·rename_i b hq
     obtain rfl:=zx hs
     exact yd m e (jl5 e.bU ho hop h1 h2 e1 e2 hg hk cL (Eo hb.1) (Eo hb.2) hq)
    ·cases hs
  ·cases hs
 split at dB
 ·split at dB
  ·rename_i h1 h2;cases dB;exact SW m e ho h1 h2 hs
  ·cases dB
 ·split at dB
  ·rename_i h1 h2;cases dB;exact SW m e ho h1 h2 hs
  ·cases dB
 ·rename_i ht
  split at dB
  ·rename_i h1 h2
   cases dB
   simp only[za,zi]at hs
   split at hs
   ·rename_i u v e1 e2
    obtain rfl:=zx hs
    exact yd m e (jmu e.bU ho hop h1 h2 e1 e2 ht)
   ·cases hs
  ·cases dB
 ·rename_i fs ht
  split at dB
  ·rename_i hg
   split at dB
   ·rename_i ks x' y' hk h1 h2;cases dB;exact eqs (by simp[fg,ht]) (by simpa using hg) hk h1 h2 hs
   ·cases dB
  ·cases dB
 ·rename_i fs _ ht
  split at dB
  ·rename_i hg
   split at dB
   ·rename_i ks x' y' hk h1 h2;cases dB;exact eqs (by simp[fg,ht]) (by simpa using hg) hk h1 h2 hs
   ·cases dB
  ·cases dB
 ·rename_i el ht
  split at dB
  ·obtain⟨x',hx,rfl⟩:=Eh.1 dB
   exact MA m e ho hop hx rfl (.inl ⟨rfl,⟨el,ht⟩,rfl⟩) hs
  ·cases dB
 ·rename_i el ht
  split at dB
  ·obtain⟨x',hx,rfl⟩:=Eh.1 dB
   exact MA m e ho hop hx rfl (.inr (.inl ⟨rfl,⟨el,ht⟩,rfl⟩)) hs
  ·cases dB
 ·rename_i el _ ht
  split at dB
  ·obtain⟨x',hx,rfl⟩:=Eh.1 dB
   exact MA m e ho hop hx rfl (.inr (.inr (.inl ⟨rfl,⟨_,_,ht⟩,rfl⟩))) hs
  ·cases dB
 ·rename_i el _ _ ht
  split at dB
  ·obtain⟨x',hx,rfl⟩:=Eh.1 dB
   exact MA m e ho hop hx rfl (.inr (.inr (.inr ⟨rfl,⟨_,_,_,ht⟩,rfl⟩))) hs
  ·cases dB
 ·cases dB
theorem jlm (m:av P C ω w0 C0 hp w)(e:ai C ω w w0.heap.size env a.tmps){op:BinOp}{t u:TypeId}{x y:Operand}(ho:o.op=.binOp op t x y u)(hc:cx P h md r dst (.binOp op t x y u)=I cr)(hs:za p xc h0 al env hp cr=I res):dY P C C0 w0 a d env o w res:=by
 simp only[cx]at hc
 unfold R1 at hc
 split at hc
 ·exact qwp (neq:=false) m e ho rfl hc hs
 ·exact qwp (neq:=true) m e ho rfl hc hs
 ·split at hc
  ·rename_i h1 h2;cases hc;exact SW m e ho h1 h2 hs
  ·cases hc
end
end Go.Abs
