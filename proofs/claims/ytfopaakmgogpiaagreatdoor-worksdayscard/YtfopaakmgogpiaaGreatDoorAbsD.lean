/- Slices that are written later. -/
import Derived.Test.YtfopaakmgogpiaaGreatDoorAbsC
open Option renaming some→I,map_eq_some_iff→En,none→E1,isSome_none→Nh
open Bool renaming false→Gk,and_eq_true→Gn,true→Gp,false_eq_true→If
open Nat renaming eq_of_beq_eq_true→Gl,mul_le_mul_right→Gq,le_refl→Md,beq→Mw,le_trans→N0,mul_le_mul→Sp,add_mul→Tc,le_of_ble_eq_true→Td,zero_add→Vk,blt_eq→V7
open List renaming getElem?_eq_some_iff→Gm,getElem?_toArray→Ha,getElem?_append_left→Hd,getElem?_eq_getElem→H7,getElem?_cons_zero→N1,getElem?_cons_succ→N2,replicate→N3,getElem?_set_self→N4,mem_of_getElem?→Sd,nil_append→Sk,getElem?_append_right→Sx,getElem?_map→S1,size_toArray→S7,flatMap_cons→S8,getElem?_take_of_lt→Ta,getElem?_eq_none→Tb,getElem?_set_ne→Te,mem_cons_of_mem→Tk,mem_of_mem_take→Tm,getElem?_take→Tn,mem_cons_self→Tq,length_append→Ts,set_set→Tz,ext_getElem?→Vs,append_assoc→Vt,length_take→Vu,length_set→Vv,mem_append→V6
open Array renaming getElem?_toList→G2,ext'→Hb,getElem?_eq_some_iff→Mx,getElem?_append_left→Mz,getD_eq_getD_getElem?→Ss,range→St,size_append→S2
namespace Go.Abs
section
variable {P:Program}{C C0:ay}{ω:Nat→Option Loc}{w w' w0:World}{hp:j8}{env:Env}{a:Act}{o:Oper}{tmps:Array Value}{d:Loc}
theorem qy1 (m:av P C ω w0 C0 hp w)(e:aj C ω w w0.heap.size env a.tmps){t el:TypeId}{x y:Operand}{x' y':qh}{n sz b h0 rk:Nat}{z:List qa}{h':j8}
  (ho:o.op=.makeSlice t x y) (ht:P.underlying t=I (.slice el)) (hn:yg P el=I sz) (hb:np P el=I b) (hz:ef P el=I z) (Sy:0<sz) (gJ:z.length=sz)
  (h1:zr x=I x') (h2:zr y=I y') (e1:zd env x'=I (.int .i64 (n:Int))) (e2:zd env y'=I (.int .i64 (n:Int))) (hle:n≤1073741824) (iK:b≤4096)
  (cW:aJ h0 hp rk (.cells (cellsOf (N3 n z).flatten))=I h'):
  ∃v w',(execOp a.eval o).run P w=.ok (.value v) w'∧kf P C0 w0 C a.tmps d env ⟨.ms (h0+rk) 0 n,Gk,E1,h'⟩ v w':=by
 obtain⟨hh,rfl⟩:=li cW
 obtain⟨pA,zv,kG,cw,kY⟩:=tZ (C:=C) hz
 have mr:zv.cells.toList.length=sz:=by rw[cw.length,gJ]
 have iX:((St (n*sz)).map (fun i=>zv.cells[i % zv.cells.size]!)).toList=(N3 n zv.cells.toList).flatten:=by
  have:=Mj mr Sy n
  simpa using this
 have r1:=(zu e.bT h1 e1).bF
 have r2:=(zu e.bT h2 e2).bF
 have fE:aM C (N3 n z).flatten ((St (n*sz)).map (fun i=>zv.cells[i % zv.cells.size]!)).toList:=by
  rw[iX];exact cw.replicate n
 obtain⟨i,hi,pF⟩:∃i,P.info? el=I i∧i.bytes=b:=by
  unfold np at hb
  cases hi:P.info? el with
  |none=>simp[hi]at hb
  |some i=>exact⟨i,rfl,by simpa[hi]using hb⟩
 have jL:i.size=sz:=by
  unfold yg at hn
  rw[hi]at hn
  simpa using hn
 have pG:IntKind.i64.wrap (n:Int)=n:=by
  rw[←yT];unfold j9
  have:pv .i64 (n:Int)=Gp:=by simp[pv];exact N0 hle (by decide)
  rw[this];rfl
 have yR:b*n≤281474976710656:=N0 (Sp iK hle) (by decide)
 obtain⟨m',e',cz⟩:=m.aJ e hh (.cells ((St (n*sz)).map (fun i=>zv.cells[i % zv.cells.size]!)) el) (fun c t fr h=>by cases h;rfl) (.cells (cellsOf (N3 n z).flatten))
  (Sv fE (by
   intro x h
   rw[List.mem_flatten]at h
   obtain⟨l,q1,q2⟩:=h
   obtain⟨_,rfl⟩:=List.mem_replicate.1 q1
   exact pA x q2) (by intro j v h;rw[G2]at h;exact h) (by have:=fE.length;simp at this;simp;omega))
 refine⟨.slice (I ⟨w.heap.size,0,E1⟩) n n,w.alloc (.cells ((St (n*sz)).map (fun i=>zv.cells[i % zv.cells.size]!)) el),?_,_,_,cz,m',e',.ms _ _ _ _ _ (by simp[ay.box]) (Md _),by simp⟩
 have c1:¬((b:Int)*(n:Int) > 2^48):=by
  have h1:((b*n:Nat):Int)≤281474976710656:=Int.ofNat_le.2 yR
  rw[Int.natCast_mul]at h1
  have h2:(2:Int)^48=281474976710656:=by decide
  rw[h2];omega
 have c2:¬((n:Int)<0):=by omega
 have hr:St 0=#[]:=rfl
 simp only[execOp,ho,Instr.makeSlice,Sem.run_bind,run_underlying ht,r1,r2,asInt,asIntOf,Sem.run_pure,Result.andThen_ok,typeInfo,run_program,hi,pF,pG,c2,c1,decide_false,Bool.or_false,If,if_false,Int.lt_irrefl,gt_iff_lt,run_askRoom,Int.toNat_natCast,iJ hn,newRow]
 by_cases yU:n=0
 ·subst yU
  simp[hr]
 ·have bw:¬(n*sz=0):=by
   intro h
   rcases Nat.mul_eq_zero.1 h with h|h<;>omega
  simp[bw,kG]
theorem j5k (m:av P C ω w0 C0 hp w)(e:aj C ω w w0.heap.size env tmps){b r s:Nat}{cells:Array Value}{t:TypeId}{us:List qa}{news:List Value}(hh:hp[b]?=I .hole)(hω:ω r=I (.slot s))(hB:w0.heap.size≤r∨C.W r)(hβ:∀b,C.β b≠I r)
  (hg:w.heap[r]?=I (.cells cells t (0,0))) (hK:∀o,C.K r o=E1) (b8:news.length≤cells.size) (gy:aM C us news) (cI:∀v∈news,v.oneCell'=Gp):
  av P (C.box b r) ω w0 C0 (hp.set b (.cells (cellsOf us))) (w.setRow r (cells.toList.take 0++news++cells.toList.drop (0+news.length)).toArray) ∧
  aj (C.box b r) ω (w.setRow r (cells.toList.take 0++news++cells.toList.drop (0+news.length)).toArray) w0.heap.size (k9 env (I s)) tmps∧C.le (C.box b r):=by
 have hu:=EN hg (cells.toList.take 0++news++cells.toList.drop (0+news.length)).toArray
 have lj:=setRow_heap w r cells (cells.toList.take 0++news++cells.toList.drop (0+news.length)).toArray t (0,0) hg
 generalize w.setRow r (cells.toList.take 0++news++cells.toList.drop (0+news.length)).toArray=w' at hu lj
 have Sz:=EY m hh
 have hle:=ay.jM (C:=C) (r:=r) Sz
 have aX:b<hp.length:=(Gm.1 hh).1
 have SA:r<w.heap.size:=(Mx.1 hg).1
 have cB:∀ℓ x v,ℓ≠.slot s→aF C ω w w0.heap.size ℓ x v→aF (C.box b r) ω w' w0.heap.size ℓ x v:=by
  intro ℓ x v hℓ ho
  have bw:ω r≠I ℓ:=by rw[hω];intro h;exact hℓ (I.inj h).symm
  exact(ho.box (.inr bw)).ia hu bw
 refine⟨?_,?_,hle⟩
 ·refine { base:=m.base,know:=?_,cQ:=m.cQ,apart:=?_,inj:=?_,lt:=?_,size:=?_,frame:=?_,eK:=?_,os:=hu.os.trans m.os,output:=hu.output.trans m.output,fresh:=?_,grown:=ay.le_trans m.grown hle,old:=m.old,box:=?_,gV:=fun q hq=>by rw[hu.size];exact m.gV q hq }
  ·intro k q v hk
   have gK:k≠r:=fun h=>by
    have eu:C.K k q=I v:=hk
    rw[h,hK q]at eu;cases eu
   have hc:=m.know _ _ _ hk
   simp only[World.cell?]at hc ⊢
   rw[hu.other k gK];exact hc
  ·intro k q p hk
   simp only[ay.box]at hk
   split at hk
   ·cases hk;exact hK p
   ·exact m.apart k q p hk
  ·intro k k' q hk eu
   simp only[ay.box]at hk eu
   split at hk<;>split at eu
   ·rename_i h1 h2;rw[h1,h2]
   ·cases hk;exact absurd eu (hβ k')
   ·cases eu;exact absurd hk (hβ k)
   ·exact m.inj k k' q hk eu
  ·intro k q hk
   rw[Vv,hu.size]
   simp only[ay.box]at hk
   split at hk
   ·rename_i h1;cases hk;subst h1;exact⟨SA,aX⟩
   ·exact m.lt k q hk
  ·rw[hu.size];exact m.size
  ·intro k hk hn hw
   have gK:k≠r:=fun h=>by
    subst h
    rcases hB with h|h
    ·omega
    ·rw[m.grown.w]at h;exact hw h
   rw[hu.other k gK];exact m.frame k hk hn hw
  ·intro k hk
   have gK:k≠r:=fun h=>by
    subst h
    have:=m.eK k hk
    rw[hg]at this;cases this
   rw[hu.other k gK];exact m.eK k hk
  ·intro k q hk
   simp only[ay.box]at hk
   split at hk
   ·cases hk
    rcases hB with h|h
    ·exact .inr (.inl h)
    ·rw[m.grown.w]at h;exact .inr (.inr h)
   ·exact m.fresh k q hk
  ·intro k x q hx hk
   simp only[ay.box]at hk
   split at hk
   ·rename_i h1
    subst h1
    cases hk
    rw[N4 aX]at hx
    cases hx
    have mE:=gy.length
    refine⟨_,t,lj,by simp[cellsOf];omega,?_⟩
    intro j c hc
    simp only[cellsOf,S1,En]at hc
    obtain⟨x,hx,rfl⟩:=hc
    obtain⟨v,h1,h2⟩:=gy.get hx
    have hj:j<news.length:=(Gm.1 h1).1
    refine⟨v,?_,cI v (Sd h1),qp.mono hle h2,by simp⟩
    simp only[List.take_zero,Sk,Ha]
    rw[Hd hj];exact h1
   ·rename_i h1
    rw[Te (Ne.symm h1)]at hx
    have bw:q≠r:=fun h=>hβ k (h▸hk)
    have kH:bn P C ω w' w0.heap.size k q x:=(m.box k x q hx hk).ia hu bw (fun j=>by rw[hω];simp)
    exact kH.mono hle fun j y v ho=>ho.box (.inr (by rw[hω];simp))
 ·intro t' x hx
  by_cases lg:t'=s
  ·subst lg
   simp only[k9]at hx
   cases hl:yd t' env with
   |none=>rw[hl]at hx;simp only[hl]at hx;cases hx
   |some y=>
    rw[hl]at hx
    simp only[yd,Nat.beq_refl,cT]at hx
    cases hx
    obtain⟨v,h2,h3,_⟩:=e t' y hl
    exact⟨v,h2,qp.mono hle h3,by simp⟩
  ·have fg:yd t' env=I x:=by
    simp only[k9]at hx
    cases hl:yd s env with
    |none=>rw[hl]at hx;exact hx
    |some y=>
     rw[hl]at hx
     simp only[yd]at hx
     have:Mw s t'=Gk:=by
      cases hb:Mw s t' with
      |false=>rfl
      |true=>exact absurd (Gl hb).symm lg
     rw[this]at hx
     exact hx
   obtain⟨v,h2,h3,h4⟩:=e t' x fg
   exact⟨v,h2,qp.mono hle h3,fun h=>cB _ _ _ (by simp[lg]) (h4 h)⟩
theorem q6a {xs:List qa}{vs:List Value}{t:TypeId}{B b r:Nat}{cells:Array Value}(hr:aM C xs vs)(cI:∀v∈vs,v.oneCell'=Gp)(hv:∀(j:Nat) v,vs[j]?=I v→cells[j]?=I v)(hl:xs.length≤cells.size):
  ∀C' ω' w',C.le C'→w'.heap[r]?=I (.cells cells t (0,0))→bn P C' ω' w' B b r (.cells (cellsOf xs)):=by
 intro C' ω' w' hle hg
 refine⟨cells,t,hg,by simpa[cellsOf]using hl,?_⟩
 intro j c hc
 simp only[cellsOf,S1,En]at hc
 obtain⟨x,hx,rfl⟩:=hc
 obtain⟨v,h1,h2⟩:=hr.get hx
 exact⟨v,hv j v h1,cI v (Sd h1),qp.mono hle h2,by simp⟩
theorem q07 (m:av P C ω w0 C0 hp w)(e:aj C ω w w0.heap.size env a.tmps){c:Call}{t u el:TypeId}{ut:TypeDesc}{x y:Operand}{x' y':qh}{sz b h0 rk:Nat}{n:Bool}{cJ:Nat}{ys:List qa}{vy:qa}{h':j8}
  (ho:o.op=.call c) (dx:c.callee=.builtin .append) (dG:c.args.toList=[x,y]) (dU:c.argTypes.toList=[t,u]) (ht:P.underlying t=I (.slice el)) (hu:P.underlying u=I ut) (iL:yM ut=Gp)
  (hn:yg P el=I sz) (hb:np P el=I b) (h1:zr x=I x') (h2:zr y=I y') (e1:zd env x'=I (.list n cJ [])) (e2:zd env y'=I vy) (cy:kl sz vy=I ys)
  (cB:(kg env x').isSome=Gp) (SC:n=Gk) (hlen:ys.length≤1073741824) (iK:b≤4096) (hzero:∃z,ef P el=I z∧z.length=sz) (zj:sz=cJ)
  (cW:aJ h0 hp rk (.cells (cellsOf (ys.flatMap qa.flat)))=I h'):
  ∃v w',(execOp a.eval o).run P w=.ok (.value v) w'∧kf P C0 w0 C a.tmps d env ⟨.ms (h0+rk) 0 ys.length,Gk,kg env x',h'⟩ v w':=by
 obtain⟨hh,rfl⟩:=li cW
 subst SC
 subst zj
 have ha:c.args=#[x,y]:=by apply Hb;simpa using dG
 have jK:c.argTypes=#[t,u]:=by apply Hb;simpa using dU
 obtain⟨i,hi,pF⟩:∃i,P.info? el=I i∧i.bytes=b:=by
  unfold np at hb
  cases hi:P.info? el with
  |none=>simp[hi]at hb
  |some i=>exact⟨i,rfl,by simpa[hi]using hb⟩
 have jL:i.size=sz:=by
  unfold yg at hn;rw[hi]at hn;simpa using hn
 obtain⟨z,hz,zk⟩:=hzero
 obtain⟨zv,mC⟩:∃zv,i.zero=I zv:=by
  unfold ef at hz;rw[hi]at hz
  cases hq:i.zero with
  |none=>simp[hq]at hz
  |some v=>exact⟨v,rfl⟩
 have rx:=zu e.bT h1 e1
 have ry:=zu e.bT h2 e2
 obtain⟨news,hs,cH,fi,cI⟩:=Ml m hu iL cy ry
 have et:∀ {z:Value} {w':World},(Builtin.append_ #[t,u] o.type #[a.eval x,a.eval y]).run P w=.ok z w'→(execOp a.eval o).run P w=.ok (.value z) w':=by
  intro z w' h
  simp[execOp,ho,resolve,dx,ha,jK,invoke,builtin,h]
 have mE:news.length=ys.length*sz:=by rw[cH.length,lb ys fi]
 rcases rx.cG with⟨hh1,_,_⟩|⟨_,r,q,cap,hx,hle,cL⟩|⟨_,_,ad,lO,hx⟩
 rotate_right
 ·exact absurd (q4z e h1 cB e1 hx) lO
 ·cases hh1
 ·obtain⟨s,gA⟩:=Option.isSome_iff_exists.1 cB
  obtain⟨fg,v0,hl⟩:=EQ gA
  have fF:v0=.list Gk sz []:=by
   subst fg
   simp only[zd,hl]at e1
   exact I.inj e1
  subst fF
  obtain⟨cv,wH,Mm,zc⟩:=e s _ hl
  have nU:cv=.slice (I ⟨r,q,E1⟩) 0 cap:=by
   have ib:zr x=I (.tmp s):=by rw[h1,fg]
   cases x with
   |tmp t'=>
    simp only[zr]at ib
    cases ib
    have:a.eval (.tmp s)=cv:=by simp[Act.eval,Ss,wH]
    rw[←this,hx];rfl
   |const u=>simp only[zr]at ib;split at ib<;>cases ib
   |func f=>simp[zr]at ib
   |global g=>simp[zr]at ib
  subst nU
  obtain⟨hω,hB,hβ,_,Mn,⟨cells,te,hg,b8⟩,hK⟩:=zc rfl
  simp only at hω hB hβ hg b8 hK Mn
  subst Mn
  simp only[List.length_nil]at hx
  by_cases dN:0+ys.length≤cap
  ·have fX:(0+ys.length)*sz≤cap*sz:=Gq _ dN
   have bp:=So (P:=P) (w:=w) (ty:=o.type) ht hi r 0 0 cap (a.eval y) ys.length news (jL▸hs) dN hg (by rw[mE];simp at fX b8 ⊢;omega)
   rw[←hx]at bp
   have e0:0+0*i.size=0:=by simp
   rw[e0]at bp
   obtain⟨m',e',cz⟩:=j5k (tmps:=a.tmps) m e hh hω hB hβ hg (fun o=>hK o (by simp)) (by rw[mE];simp at fX b8 ⊢;omega) cH cI
   rw[gA]
   refine⟨_,_,et bp,_,_,cz,m',e',?_,by simp⟩
   have:=qp.ms (C:=C.box (h0+rk) r) (h0+rk) 0 ys.length r cap (by simp[ay.box]) (by omega)
   simpa using this
  ·have E2:Builtin.nextslicecap (0+ys.length) cap*i.bytes≤281474976710656:=growslice_fits (by omega) (by
    rw[pF]
    exact N0 (Sp (by omega) iK) (by decide:2^30*4096≤_))
   have bp:=run_append_grow_src w t u o.type el i zv ht hi mC (I ⟨r,0,E1⟩) 0 cap [] (run_firstCells_some _ _ _ _ _ _ [] (by simp) (by simp)) (a.eval y) ys.length news (jL▸hs) (by omega) (by omega) E2
   rw[←hx]at bp
   have ub:=grownCap_ge w (0+ys.length) cap el
   have ic:Ext w w.drew:=Ext.drew w
   obtain⟨m',e',cz⟩:=(m.ext ic).aJ (e.ext ic) hh (.cells (([]++news).toArray++Builtin.zeroCells zv.cells (grownCap w (0+ys.length) cap el-(0+ys.length))) el) (fun c t fr h=>by cases h;rfl) (.cells (cellsOf (ys.flatMap qa.flat)))
    (q6a cH cI (by
     intro j v hj
     rw[Mz (by simpa using(Gm.1 hj).1)]
     simpa using hj) (by have h5:=cH.length;rw[S2];simp only[Sk,S7];omega))
   refine⟨_,_,et bp,_,_,cz,m',e'.strip _,?_,by simp⟩
   have:=qp.ms (C:=C.box (h0+rk) w.drew.heap.size) (h0+rk) 0 ys.length w.drew.heap.size (grownCap w (0+ys.length) cap el) (by simp[ay.box]) (by omega)
   simpa using this
end
section
variable {P:Program}{C C0:ay}{ω:Nat→Option Loc}{w w' w0:World}{hp:j8}{env:Env}{a:Act}{o:Oper}{tmps:Array Value}{d:Loc}
theorem Mq {b bu len:Nat}{v:Value}(h:bD C (.ak b bu len) v):∃r0 r cap,C.β b=I r0∧C.T (r0,bu,r,cap)∧len≤cap∧v=.slice (I ⟨r,0,E1⟩) len cap:=by
 cases h with
 |ak _ _ _ r0 r cap hb ht hl=>exact⟨r0,r,cap,hb,ht,hl,rfl⟩
theorem q63 {b bu off:Nat}{v:Value}(h:bD C (.dq b bu off) v):∃r0 r cap,C.β b=I r0∧C.T (r0,bu,r,cap)∧v=.pointer (I ⟨r,off,E1⟩):=by
 cases h with
 |dq _ _ _ r0 r cap hb ht=>exact⟨r0,r,cap,hb,ht,rfl⟩
theorem qyz {t:TypeId}{x:Operand}{x':qh}{i:Nat}{fs:Array Field}{f:Field}{n b bu q:Nat}(he:aW C env a.tmps)(ho:o.op=.fieldAddr t x i)(ht:P.underlying t=I (.struct fs))(hf:fs[i]?=I f)
  (hn:yg P f.type=I n) (yU:0<n) (h1:zr x=I x') (e1:zd env x'=I (.dq b bu q)):Val P C a o w (.dq b bu (q+f.offset)):=by
 obtain⟨r0,r,cap,hb,hT,hq⟩:=q63 (zu he h1 e1)
 refine⟨.pointer (I ⟨r,q+f.offset,E1⟩),?_,.dq _ _ _ r0 r cap hb hT⟩
 simp[execOp,ho,Instr.fieldAt,run_underlying ht,hf,hq,Instr.sureAddr,fieldPlace,iJ hn,Nat.pos_iff_ne_zero.1 yU,add_lit]
theorem qzx {t e:TypeId}{x i:Operand}{x' i':qh}{sz:Nat}{iv:qa}{b bu len j:Nat}(he:aW C env a.tmps)(ho:o.op=.indexAddr t x i)(ht:P.underlying t=I (.slice e))
  (hn:yg P e=I sz) (h1:zr x=I x') (h2:zr i=I i') (e1:zd env x'=I (.ak b bu len)) (e2:zd env i'=I iv) (hj:idx len iv=I j):Val P C a o w (.dq b bu (j*sz)):=by
 obtain⟨r0,r,cap,hb,hT,_,hq⟩:=Mq (zu he h1 e1)
 obtain⟨k,rfl,aX⟩:=EK hj
 have hi:=(zu he h2 e2).bF
 refine⟨.pointer (I ⟨r,j*sz,E1⟩),?_,.dq _ _ _ r0 r cap hb hT⟩
 simp[execOp,ho,Instr.indexAt,run_underlying ht,hq,hi,asIntOf,iJ hn,aX,add_lit]
theorem jap {t e:TypeId}{x:Operand}{lo hi:Option Operand}{x':qh}{kX fh:Option qh}{sz j b bu len:Nat}(he:aW C env a.tmps)(ho:o.op=.slice t x lo hi E1)(ht:P.underlying t=I (.slice e))
  (hn:yg P e=I sz) (h1:zr x=I x') (h2:mb lo=I kX) (h3:mb hi=I fh) (e1:zd env x'=I (.ak b bu len)) (b2:eR env len len fh=I j) (b1:eR env 0 j kX=I 0):Val P C a o w (.ak b bu j):=by
 obtain⟨r0,r,cap,hb,hT,hl,hq⟩:=Mq (zu he h1 e1)
 obtain⟨gX,k1,k2⟩:=Mg (P:=P) (isS:=true) he h2 h3 b2 b1 hl w
 refine⟨.slice (I ⟨r,0,E1⟩) j cap,?_,.ak _ _ _ r0 r cap hb hT (by omega)⟩
 simp[execOp,ho,Instr.sliceAt,Instr.slice,run_underlying ht,hq,gX,iJ hn,add_lit]
theorem jgx {c:Call}{x:Operand}{t e:TypeId}{x':qh}{b bu n:Nat}(he:aW C env a.tmps)(ho:o.op=.call c)(dx:c.callee=.builtin .len)(dG:c.args.toList=[x])(dU:c.argTypes.toList=[t])
  (h1:zr x=I x') (e1:zd env x'=I (.ak b bu n)) (ht:P.underlying t=I (.slice e)):Val P C a o w (.int .i64 n):=by
 have ha:c.args=#[x]:=by apply Hb;simpa using dG
 have jK:c.argTypes=#[t]:=by apply Hb;simpa using dU
 refine⟨.int .i64 n,?_,.int _ _⟩
 simp only[execOp,ho,resolve,dx,ha,jK,Sem.run_bind,Sem.run_pure,Result.andThen_ok,invoke,builtin,Builtin.len_]
 obtain⟨r0,r,cap,_,_,_,hq⟩:=Mq (zu he h1 e1)
 simp[run_underlying ht,hq,goInt]
theorem ji8 (m:av P C ω w0 C0 hp w){b bu q cap r0 sz:Nat}{xs:List qa}(hb:C.β b=I r0)(hT:C.T (r0,bu,q,cap))(fZ:hp[b]?=I (.vec sz bu xs)):
  ∃vs,aM C (xs.flatMap qa.flat) vs∧(∀(j:Nat) v,vs[j]?=I v→w.cell? ⟨q,j,E1⟩=I v∧v.oneCell'=Gp)∧dL C.K w q sz xs cap:=by
 obtain⟨q',jN,k1,k2,k3,k4,_⟩:=m.box b _ r0 fZ hb
 have heq:=(k2 _ hT rfl).2 rfl
 simp only[Prod.mk.injEq]at heq
 obtain⟨rfl,rfl⟩:=heq
 obtain⟨cells,t,vs,g1,g2,g3,g4,g5,g6,g7⟩:=id k3
 refine⟨vs,qp.imp (C:=.bK C.K) (C':=C) ⟨fun _ _ _ h=>h,fun b r h=>by cases h⟩ g5 (fun _ h=>h.elim),fun j v hj=>⟨?_,g7 v (Sd hj)⟩,k3⟩
 unfold World.cell?
 rw[g1]
 simp only[Nh,If,if_false]
 exact g6 j v hj
theorem q0n (m:av P C ω w0 C0 hp w)(he:aW C env a.tmps){t:TypeId}{x:Operand}{x':qh}{n:Nat}{ag:Bool}{b bu q sz:Nat}{xs:List qa}{v:qa}(ho:o.op=.load t x)(hg:fb P t=I ag)(hn:yg P t=I n)(h1:zr x=I x')(e1:zd env x'=I (.dq b bu q))
  (fZ:hp[b]?=I (.vec sz bu xs)) (hl:q+n≤(xs.flatMap qa.flat).length) (hv:(ag=Gp∧v=.agg (((xs.flatMap qa.flat).drop q).take n))∨(ag=Gk∧((xs.flatMap qa.flat).drop q).take n=[v])):Val P C a o w v:=by
 obtain⟨r0,r,cap,hb,hT,hq⟩:=q63 (zu he h1 e1)
 obtain⟨vs,k1,k2,_⟩:=ji8 m hb hT fZ
 have k3:aM C (((xs.flatMap qa.flat).drop q).take n) ((vs.drop q).take n):=(k1.drop q).take n
 have k4:∀j u,((vs.drop q).take n)[j]?=I u→w.cell? ⟨r,q+j,E1⟩=I u:=by
  intro j u hj
  rw[Tn]at hj
  split at hj
  ·rw[List.getElem?_drop]at hj;exact(k2 _ _ hj).1
  ·cases hj
 have k5:((vs.drop q).take n).length=n:=by rw[k3.length,Vu,List.length_drop];omega
 rcases hv with⟨rfl,rfl⟩|⟨rfl,hv⟩
 ·exact⟨.agg ⟨(vs.drop q).take n⟩,by simp[execOp,ho,Instr.loadAt,hq,Instr.sureAddr,EV hg hn k5 k4],.agg _ _ k3⟩
 ·rw[hv]at k3
  generalize hgen:(vs.drop q).take n=us at k3 k4 k5
  cases k3 with
  |cons _ _ u us hu jJ=>
   cases jJ
   refine⟨u,?_,hu⟩
   have:=EW (P:=P) hg (by simpa using k4 0 u rfl)
   simp[execOp,ho,Instr.loadAt,hq,Instr.sureAddr,this]
def ay.tok (C:ay)(x:Nat×Nat×Nat×Nat):ay:={ C with T:=fun q=>C.T q∨q=x }
theorem ay.ga {x:Nat×Nat×Nat×Nat}:C.le (C.tok x):=⟨fun _ _ _ h=>h,fun _ _ h=>h,rfl,fun _ h=>h,fun _ h=>.inl h⟩
theorem aF.tok {x:Nat×Nat×Nat×Nat}{B:Nat}{ℓ:Loc}{y:qa}{v:Value}(h:aF C ω w B ℓ y v):aF (C.tok x) ω w B ℓ y v:=by
 unfold aF at *
 exact h
theorem aj.tok {x:Nat×Nat×Nat×Nat}{B:Nat}(e:aj C ω w B env tmps):aj (C.tok x) ω w B env tmps:=
 fun s y hy=>let ⟨v,h1,h2,h3⟩:=e s y hy; ⟨v,h1,qp.mono ay.ga h2,fun h=>(h3 h).tok⟩
theorem av.pJ (m:av P C ω w0 C0 hp w){b r sz bu q cap:Nat}{xs:List qa}(hβ:C.β b=I r)(hT:∀x,C.T x→x.1=r→x.2.1<bu)(hv:dL C.K w q sz xs cap)(ho:q=r∨wE C ω w w0.heap.size b q xs.length cap)(hr:∃cs t,w.heap[r]?=I (.cells cs t (0,0))):
  av P (C.tok (r,bu,q,cap)) ω w0 C0 (hp.set b (.vec sz bu xs)) w:=by
 have aX:=m.lt b r hβ
 refine { m with lt:=fun k p hk=>by rw[Vv];exact m.lt k p hk,grown:=ay.le_trans m.grown ay.ga,box:=?_,gV:=?_ }
 ·intro k y p hy hk
  by_cases lh:k=b
  ·subst lh
   rw[N4 aX.2]at hy
   cases hy
   obtain rfl:r=p:=by have:C.β k=I p:=hk;rw[hβ]at this;exact I.inj this
   refine⟨q,cap,.inr rfl,fun x hx hxr=>?_,hv,ho.imp id fun h=>h.tok,hr⟩
   rcases hx with hx|rfl
   ·have:=hT x hx hxr
    exact⟨by omega,fun h=>by omega⟩
   ·exact⟨Md _,fun _=>rfl⟩
  ·rw[Te (Ne.symm lh)]at hy
   have tW:p≠r:=fun h=>lh (m.inj k b p hk (h▸hβ))
   refine(m.box k y p hy hk).mono ay.ga (fun j z u h=>h.tok) (fun x hx hxp=>?_)
   rcases hx with hx|rfl
   ·exact hx
   ·exact absurd hxp.symm tW
 ·intro x hx
  rcases hx with hx|rfl
  ·exact m.gV x hx
  ·exact aX.1
theorem av.pK (m:av P C ω w0 C0 hp w){b r:Nat}(hβ:C.β b=I r)(hr:∃cs t,w.heap[r]?=I (.cells cs t (0,0))):av P C ω w0 C0 (hp.set b .dead) w:=
 m.du (ω':=ω) (w':=w) (r:=r) (b:=b) ⟨rfl,fun _ _=>rfl,fun c t fr h=>by obtain⟨cs,t',h'⟩:=hr;rw[h']at h;cases h;rfl,rfl,rfl⟩ hβ .dead (fun _ _ _ _ _ h=>h) hr
theorem av.zC (m:av P C ω w0 C0 hp w){b q n cap:Nat}{cs:Array Value}(hd:hp[b]?=I .dead)(ho:wE C ω w w0.heap.size b q n cap)(hu:jm w w' q cs):av P C ω w0 C0 hp w':=by
 obtain⟨h1,h2,h3,_,_,⟨cells,elem,h5,_⟩,h7⟩:=ho
 simp only at h1 h2 h3 h5 h7
 have hK:∀o,C.K q o=E1:=fun o=>h7 o (by simp)
 refine { base:=m.base,know:=?_,cQ:=m.cQ,apart:=m.apart,inj:=m.inj,lt:=?_,size:=?_,frame:=?_,eK:=?_,os:=hu.os.trans m.os,output:=hu.output.trans m.output,fresh:=m.fresh,grown:=m.grown,old:=m.old,box:=?_,gV:=fun x hx=>by rw[hu.size];exact m.gV x hx }
 ·intro k p v hk
  have bw:k≠q:=fun h=>by rw[h,hK p]at hk;cases hk
  have hc:=m.know _ _ _ hk
  simp only[World.cell?]at hc ⊢
  rw[hu.other k bw];exact hc
 ·intro k p hk;rw[hu.size];exact m.lt k p hk
 ·rw[hu.size];exact m.size
 ·intro k hk hn hw
  have bw:k≠q:=fun h=>by
   subst h
   rcases h2 with h|h
   ·omega
   ·rw[m.grown.w]at h;exact hw h
  rw[hu.other k bw];exact m.frame k hk hn hw
 ·intro k hk
  have bw:k≠q:=fun h=>by
   subst h
   have:=m.eK k hk
   rw[h5]at this;cases this
  rw[hu.other k bw];exact m.eK k hk
 ·intro k x p hx hk
  have bw:p≠q:=fun h=>h3 k (h▸hk)
  by_cases lh:k=b
  ·subst lh
   rw[hd]at hx
   cases hx
   obtain⟨dQ,t',hg⟩:=m.box k .dead p hd hk
   exact⟨dQ,t',by rw[hu.other p bw];exact hg⟩
  ·exact(m.box k x p hx hk).ia hu bw (fun j=>by rw[h1];intro h;injection h with h;injection h with h _;exact lh h.symm)
theorem qs2 {sz:Nat}:∀ {xs:List qa} (n:Nat),(∀x∈xs,x.flat.length=sz)→(xs.take n).flatMap qa.flat=(xs.flatMap qa.flat).take (n*sz)
 | [],n,_=>by simp
 |x::xs,0,_=>by simp
 |x::xs,n+1,h=>by
  have hx:=h x (Tq ..)
  have h1:x.flat.take ((n+1)*sz)=x.flat:=List.take_of_length_le (by rw[hx,Nat.succ_mul];omega)
  have h2:(n+1)*sz-sz=n*sz:=by rw[Nat.succ_mul];omega
  rw[List.take_succ_cons,S8,S8,qs2 n (fun y hy=>h y (Tk _ hy)),List.take_append,hx,h1,h2]
theorem dL.grown {K:Nat→Nat→Option Value}{q q' sz len cap jN:Nat}{xs ys:List qa}{news dV:List Value}{dj:Array Value}{t':TypeId}(h:dL K w q sz xs cap)(hl:len≤xs.length)(cH:aM (.bK K) (ys.flatMap qa.flat) news)(fi:∀y∈ys,y.flat.length=sz)(cI:∀v∈news,v.oneCell'=Gp)
  (hold:∀vs:List Value,aM (.bK K) (xs.flatMap qa.flat) vs→(∀(j:Nat) v,vs[j]?=I v→w.cell? ⟨q,j,E1⟩=I v)→dV=vs.take (len*sz)) (hcap:len+ys.length≤jN) (b8:jN*sz≤dj.size)
  (hg:w'.heap[q']?=I (.cells dj t' (0,0))) (hc:∀(j:Nat) v,(dV++news)[j]?=I v→dj[j]?=I v):dL K w' q' sz (xs.take len++ys) jN:=by
 obtain⟨cells,t,vs,g1,g2,g3,g4,g5,g6,g7⟩:=h
 have ho:dV=vs.take (len*sz):=hold vs g5 (fun j v hj=>by
  unfold World.cell?
  rw[g1]
  simp only[Nh,If,if_false]
  exact g6 j v hj)
 refine⟨dj,t',dV++news,hg,by rw[Ts,Vu];omega,b8,?_,?_,hc,?_⟩
 ·intro x hx
  rcases V6.1 hx with hx|hx
  ·exact g4 x (Tm hx)
  ·exact fi x hx
 ·rw[List.flatMap_append,qs2 len g4,ho]
  exact(g5.take _).append cH
 ·intro v hv
  rcases V6.1 hv with hv|hv
  ·rw[ho]at hv;exact g7 v (Tm hv)
  ·exact cI v hv
theorem aM.pure {xs:List qa}{vs:List Value}(h:aM C xs vs)(hb:zw 0 xs=Gp):aM (.bK C.K) xs vs:=
 qp.shift (C:=C) (C':=.bK C.K) 0 (fun _ _ _ h=>h) (fun b r aX=>by omega) h hb
theorem SD {n:Nat}:∀ {xs:List qa},zw n xs=Gp→zw n (xs.flatMap qa.flat)=Gp
 | [],_=>rfl
 |x::xs,h=>by
  simp only[zw,Gn]at h
  have key:∀(ys zs:List qa),zw n ys=Gp→zw n zs=Gp→zw n (ys++zs)=Gp:=by
   intro ys zs
   induction ys with
   |nil=>intro _ h;exact h
   |cons y ys ih=>intro h1 h2;simp only[zw,Gn,List.cons_append]at h1 ⊢;exact⟨h1.1,ih h1.2 h2⟩
  rw[S8]
  exact key _ _ (by rw[L8];exact h.1) (SD h.2)
theorem aM.fun {xs:List qa}:∀ {vs ws:List Value},aM C xs vs→aM C xs ws→vs.length=ws.length:=fun h k=>by rw[h.length,k.length]
theorem jfi (m:av P C ω w0 C0 hp w)(e:aj C ω w w0.heap.size env a.tmps){c:Call}{t u el:TypeId}{ut:TypeDesc}{x y:Operand}{x' y':qh}{sz b bx bu len:Nat}{xs ys:List qa}{vy:qa}{h':j8}
  (ho:o.op=.call c) (dx:c.callee=.builtin .append) (dG:c.args.toList=[x,y]) (dU:c.argTypes.toList=[t,u]) (ht:P.underlying t=I (.slice el)) (hu:P.underlying u=I ut) (iL:yM ut=Gp)
  (hn:yg P el=I sz) (hb:np P el=I b) (h1:zr x=I x') (h2:zr y=I y') (e1:zd env x'=I (.ak bx bu len)) (e2:zd env y'=I vy) (cy:kl sz vy=I ys)
  (fZ:hp[bx]?=I (.vec sz bu xs)) (hle:len≤xs.length) (hlen:len+ys.length≤1073741824) (iK:b≤4096) (SE:zw 0 ys=Gp) (hzero:∃z,ef P el=I z∧z.length=sz)
  (bm:yj hp bx (.vec sz (bu+1) (xs.take len++ys))=I h'):
  ∃v w',(execOp a.eval o).run P w=.ok (.value v) w'∧kf P C0 w0 C a.tmps d env ⟨.ak bx (bu+1) (len+ys.length),Gk,E1,h'⟩ v w':=by
 have fG:h'=hp.set bx (.vec sz (bu+1) (xs.take len++ys)):=by
  unfold yj at bm
  cases vg:Nat.blt bx hp.length with
  |false=>simp[vg]at bm
  |true=>simpa[vg]using bm.symm
 subst fG
 have ha:c.args=#[x,y]:=by apply Hb;simpa using dG
 have jK:c.argTypes=#[t,u]:=by apply Hb;simpa using dU
 obtain⟨i,hi,pF⟩:∃i,P.info? el=I i∧i.bytes=b:=by
  unfold np at hb
  cases hi:P.info? el with
  |none=>simp[hi]at hb
  |some i=>exact⟨i,rfl,by simpa[hi]using hb⟩
 have jL:i.size=sz:=by
  unfold yg at hn;rw[hi]at hn;simpa using hn
 obtain⟨z,hz,zk⟩:=hzero
 obtain⟨zv,mC⟩:∃zv,i.zero=I zv:=by
  unfold ef at hz;rw[hi]at hz
  cases hq:i.zero with
  |none=>simp[hq]at hz
  |some v=>exact⟨v,rfl⟩
 have ry:=zu e.bT h2 e2
 obtain⟨news,hs,cH,fi,cI⟩:=Ml m hu iL cy ry
 have pL:aM (.bK C.K) (ys.flatMap qa.flat) news:=cH.pure (SD SE)
 have et:∀ {z:Value} {w':World},(Builtin.append_ #[t,u] o.type #[a.eval x,a.eval y]).run P w=.ok z w'→(execOp a.eval o).run P w=.ok (.value z) w':=by
  intro z w' h
  simp[execOp,ho,resolve,dx,ha,jK,invoke,builtin,h]
 have mE:news.length=ys.length*sz:=by rw[cH.length,lb ys fi]
 obtain⟨r0,q,cap,hβ,hT,hlc,hx⟩:=Mq (zu e.bT h1 e1)
 obtain⟨q',jN,k1,k2,k3,k4,k5⟩:=m.box bx _ r0 fZ hβ
 have heq:=(k2 _ hT rfl).2 rfl
 simp only[Prod.mk.injEq]at heq
 obtain⟨rfl,rfl⟩:=heq
 have pM:∀x,C.T x→x.1=r0→x.2.1<bu+1:=fun x hx hr=>by have:=(k2 x hx hr).1;omega
 have vg:=(m.lt bx r0 hβ).2
 -- the old cells
 obtain⟨cells,te,vs,g1,g2,g3,g4,g5,g6,g7⟩:=id k3
 have vd:vs.length=xs.length*sz:=by rw[g5.length,lb xs g4]
 have hvle:xs.length*sz≤cap*sz:=Gq _ g2
 have hlle:len*sz≤xs.length*sz:=Gq _ hle
 have hold:∀pN:List Value,aM (.bK C.K) (xs.flatMap qa.flat) pN→(∀(j:Nat) v,pN[j]?=I v→w.cell? ⟨q,j,E1⟩=I v)→vs.take (len*sz)=pN.take (len*sz):=by
  intro pN h3 h4
  have hl':pN.length=vs.length:=by rw[h3.length,g5.length]
  have:pN=vs:=by
   apply Vs
   intro j
   by_cases hj:j<vs.length
   ·have h5:=h4 j _ (H7 (by omega))
    have h6:=g6 j _ (H7 hj)
    unfold World.cell? at h5
    rw[g1]at h5
    simp only[Nh,If,if_false]at h5
    rw[H7 hj,H7 (by omega),←h5,h6]
   ·rw[Tb (by omega),Tb (by omega)]
  rw[this]
 by_cases dN:len+ys.length≤cap
 ·-- there is room
  have fX:(len+ys.length)*sz≤cap*sz:=Gq _ dN
  rw[Tc]at fX
  have bp:=So (P:=P) (w:=w) (ty:=o.type) ht hi q 0 len cap (a.eval y) ys.length news (jL▸hs) dN g1 (by rw[jL,mE];omega)
  rw[←hx,jL]at bp
  have oM:=EN g1 (cells.toList.take (0+len*sz)++news++cells.toList.drop (0+len*sz+news.length)).toArray
  have lj:=setRow_heap w q cells (cells.toList.take (0+len*sz)++news++cells.toList.drop (0+len*sz+news.length)).toArray te (0,0) g1
  generalize Sn:w.setRow q (cells.toList.take (0+len*sz)++news++cells.toList.drop (0+len*sz+news.length)).toArray=w' at bp oM lj
  have zD:dL C.K w' q sz (xs.take len++ys) cap:=by
   refine dL.grown (dV:=vs.take (len*sz)) k3 hle pL fi cI hold dN (by simp;omega) lj ?_
   intro j v hj
   rw[Ha]
   have dU:(cells.toList.take (0+len*sz)).length=len*sz:=by simp;omega
   have ll:(vs.take (len*sz)).length=len*sz:=by simp;omega
   by_cases SF:j<len*sz
   ·rw[Vt,Hd (by rw[dU];exact SF)]
    rw[Hd (by rw[ll];exact SF),Ta SF]at hj
    rw[Ta (by omega),G2]
    exact g6 j v hj
   ·rw[Sx (by rw[ll];omega),ll]at hj
    have hjn:j-len*sz<news.length:=(Gm.1 hj).1
    rw[Vt,Sx (by rw[dU];omega),dU,Hd hjn]
    exact hj
  have fin:∀(m1:av P C ω w0 C0 (hp.set bx .dead) w') (e1:aj C ω w' w0.heap.size env a.tmps) (EU:q=r0∨wE C ω w' w0.heap.size bx q (xs.take len++ys).length cap) (vh:∃cs t,w'.heap[r0]?=I (.cells cs t (0,0))),
    kf P C0 w0 C a.tmps d env ⟨.ak bx (bu+1) (len+ys.length),Gk,E1,hp.set bx (.vec sz (bu+1) (xs.take len++ys))⟩ (.slice (I ⟨q,0,E1⟩) (len+ys.length) cap) w':=by
   intro m1 e1 EU vh
   have m2:=m1.pJ (b:=bx) (sz:=sz) (bu:=bu+1) (q:=q) (cap:=cap) (xs:=xs.take len++ys) hβ pM zD EU vh
   rw[Tz]at m2
   exact⟨_,ω,ay.ga,m2,e1.tok,.ak _ _ _ r0 q cap hβ (.inr rfl) dN,by simp⟩
  refine⟨_,_,et bp,?_⟩
  rcases k4 with rfl|k4
  ·refine fin ?_ (e.de oM.ia hβ) (.inl rfl) ⟨_,_,lj⟩
   exact m.du oM.ia hβ .dead (fun _ _ _ _ _ h=>h) ⟨_,_,lj⟩
  ·have hqr:q≠r0:=fun h=>k4.2.2.1 bx (by rw[hβ];exact congrArg I h.symm)
   have md:=m.pK hβ k5
   have m1:=md.zC (by rw[N4 vg]) k4 oM
   obtain⟨SG,t5,k5⟩:=k5
   refine fin m1 ?_ (.inr ?_) ⟨SG,t5,by rw[oM.other _ (Ne.symm hqr)];exact k5⟩
   ·exact fun s y hy=>let ⟨v,j1,j2,j3⟩:=e s y hy; ⟨v,j1,j2,fun h=>(j3 h).ia oM (by rw[k4.1];simp)⟩
   ·obtain⟨j1,j2,j3,j4,j5,_,j7⟩:=k4
    exact⟨j1,j2,j3,j4,j5,⟨_,te,lj,by simp,fun _ _ _ h=>by simp at h⟩,fun o ho=>j7 o (by simp)⟩
 ·-- there is none
  have b8:Builtin.nextslicecap (len+ys.length) cap*i.bytes≤281474976710656:=growslice_fits (by omega) (by
   rw[pF]
   exact N0 (Sp hlen iK) (by decide))
  have E3:(vs.take (len*sz)).length=len*i.size:=by rw[jL];simp;omega
  have bp:=run_append_grow_src w t u o.type el i zv ht hi mC (I ⟨q,0,E1⟩) len cap (vs.take (len*sz)) (run_firstCells_some _ _ _ _ _ _ _ E3 (fun j v hj=>by
   rw[Tn]at hj
   split at hj
   ·have h3:=g6 j v hj
    have h4:w.cell? ⟨q,j,E1⟩=I v:=by
     unfold World.cell?
     rw[g1]
     simp only[Nh,If,if_false]
     exact h3
    rw[add_lit,Vk]
    exact h4
   ·cases hj)) (a.eval y) ys.length news (jL▸hs) (by omega) (by omega) b8
  rw[←hx]at bp
  have ub:=grownCap_ge w (len+ys.length) cap el
  have gJ:zv.cells.size=sz:=by
   obtain⟨_,zv',kY,ES,_⟩:=tZ (C:=C) hz
   have:=kY w
   simp[zeroValue,typeInfo,hi,mC]at this
   subst this
   have:=ES.length
   simp at this
   omega
  generalize dW:((vs.take (len*sz)++news).toArray++Builtin.zeroCells zv.cells (grownCap w (len+ys.length) cap el-(len+ys.length)))=dj at bp
  generalize SH:grownCap w (len+ys.length) cap el=gc at bp ub dW
  have ic:Ext w w.drew:=Ext.drew w
  have SI:Ext w.drew (w.drew.alloc (.cells dj el)):=Ext.alloc _ _ (fun c t fr h=>by cases h;rfl)
  have E4:(w.drew.alloc (.cells dj el)).heap[w.drew.heap.size]?=I (.cells dj el (0,0)):=by rw[u0,if_pos rfl]
  have zD:dL C.K (w.drew.alloc (.cells dj el)) w.drew.heap.size sz (xs.take len++ys) gc:=by
   refine dL.grown (dV:=vs.take (len*sz)) k3 hle pL fi cI hold ub ?_ E4 ?_
   ·rw[←dW]
    have ll:(vs.take (len*sz)).length=len*sz:=by simp;omega
    simp only[S2,S7,Ts,ll,mE]
    have:(Builtin.zeroCells zv.cells (gc-(len+ys.length))).size=(gc-(len+ys.length))*sz:=by simp[Builtin.zeroCells,gJ]
    rw[this,←Tc,←Tc]
    exact Gq _ (by omega)
   ·intro j v hj
    rw[←dW,Mz (by simpa using(Gm.1 hj).1)]
    simpa using hj
  have md:=((m.pK hβ k5).ext ic).jI w.drew.heap.size (.cell bx 0) (Md _)
  have m1:=md.ext SI
  obtain⟨SG,t5,k5⟩:=k5
  have m2:=m1.pJ (b:=bx) (sz:=sz) (bu:=bu+1) (q:=w.drew.heap.size) (cap:=gc) (xs:=xs.take len++ys) hβ pM zD (.inr ⟨by simp[cr],.inl (N0 m.size ic.size),fun k hk=>by have:=(m.lt k _ hk).1;simp at this,rfl,rfl,⟨dj,el,E4,by simp,fun _ _ _ h=>by simp at h⟩,fun o _=>m.iV _ ic.size o⟩) ⟨SG,t5,(ic.trans SI).get k5⟩
  rw[Tz]at m2
  refine⟨_,_,et bp,_,_,ay.ga,m2,(((e.ext ic).fresh (Md _)).ext SI).tok,.ak _ _ _ r0 _ gc hβ (.inr rfl) (by omega),by simp⟩
theorem jbe (m:av P C ω w0 C0 hp w)(e:aj C ω w w0.heap.size env tmps){bx sz cap:Nat}{xs:List qa}{cells:Array Value}{te:TypeId}{vs:List Value}(hh:hp[bx]?=I .hole)(Mr:aM C (xs.flatMap qa.flat) vs)(zE:zw 0 xs=Gp)(cD:∀x∈xs,x.flat.length=sz)
  (cI:∀v∈vs,v.oneCell'=Gp) (hc:∀(j:Nat) v,vs[j]?=I v→cells[j]?=I v) (hcap:xs.length≤cap) (b8:cap*sz≤cells.size):
  kf P C0 w0 C tmps d env ⟨.ak bx 0 xs.length,Gk,E1,hp.set bx (.vec sz 0 xs)⟩ (.slice (I ⟨w.heap.size,0,E1⟩) xs.length cap) (w.alloc (.cells cells te)):=by
 obtain⟨m1,e1,zF⟩:=m.aJ e hh (.cells cells te) (fun c t fr h=>by cases h;rfl) .dead (fun C' ω' w' _ hg=>⟨cells,te,hg⟩)
 have E4:(w.alloc (.cells cells te)).heap[w.heap.size]?=I (.cells cells te (0,0)):=by rw[u0,if_pos rfl]
 have hβ:(C.box bx w.heap.size).β bx=I w.heap.size:=by simp[ay.box]
 have m2:=m1.pJ (b:=bx) (r:=w.heap.size) (sz:=sz) (bu:=0) (q:=w.heap.size) (cap:=cap) (xs:=xs) hβ (fun x hx hr=>by have:=m.gV x hx;omega) ⟨cells,te,vs,E4,hcap,b8,cD,Mr.pure (SD zE),hc,cI⟩ (.inl rfl) ⟨cells,te,E4⟩
 rw[Tz]at m2
 exact⟨_,ω,ay.le_trans zF ay.ga,m2,e1.tok,.ak _ _ _ w.heap.size w.heap.size cap hβ (.inr rfl) hcap,by simp⟩
theorem jjb (m:av P C ω w0 C0 hp w)(e:aj C ω w w0.heap.size env a.tmps){c:Call}{t u el:TypeId}{ut:TypeDesc}{x y:Operand}{x' y':qh}{sz SJ b h0 rk:Nat}{ys:List qa}{vy:qa}{h':j8}
  (ho:o.op=.call c) (dx:c.callee=.builtin .append) (dG:c.args.toList=[x,y]) (dU:c.argTypes.toList=[t,u]) (ht:P.underlying t=I (.slice el)) (hu:P.underlying u=I ut) (iL:yM ut=Gp)
  (hn:yg P el=I sz) (hb:np P el=I b) (h1:zr x=I x') (h2:zr y=I y') (e1:zd env x'=I (.list Gp SJ [])) (e2:zd env y'=I vy) (cy:kl sz vy=I ys)
  (hlen:ys.length≤1073741824) (bw:ys≠[]) (iK:b≤4096) (SE:zw 0 ys=Gp) (hzero:∃z,ef P el=I z∧z.length=sz) (cW:aJ h0 hp rk (.vec sz 0 ys)=I h'):
  ∃v w',(execOp a.eval o).run P w=.ok (.value v) w'∧kf P C0 w0 C a.tmps d env ⟨.ak (h0+rk) 0 ys.length,Gk,E1,h'⟩ v w':=by
 obtain⟨hh,rfl⟩:=li cW
 have ha:c.args=#[x,y]:=by apply Hb;simpa using dG
 have jK:c.argTypes=#[t,u]:=by apply Hb;simpa using dU
 obtain⟨i,hi,pF⟩:∃i,P.info? el=I i∧i.bytes=b:=by
  unfold np at hb
  cases hi:P.info? el with
  |none=>simp[hi]at hb
  |some i=>exact⟨i,rfl,by simpa[hi]using hb⟩
 have jL:i.size=sz:=by
  unfold yg at hn;rw[hi]at hn;simpa using hn
 obtain⟨z,hz,zk⟩:=hzero
 obtain⟨zv,mC⟩:∃zv,i.zero=I zv:=by
  unfold ef at hz;rw[hi]at hz
  cases hq:i.zero with
  |none=>simp[hq]at hz
  |some v=>exact⟨v,rfl⟩
 have ry:=zu e.bT h2 e2
 obtain⟨news,hs,cH,fi,cI⟩:=Ml m hu iL cy ry
 have et:∀ {z:Value} {w':World},(Builtin.append_ #[t,u] o.type #[a.eval x,a.eval y]).run P w=.ok z w'→(execOp a.eval o).run P w=.ok (.value z) w':=by
  intro z w' h
  simp[execOp,ho,resolve,dx,ha,jK,invoke,builtin,h]
 have mE:news.length=ys.length*sz:=by rw[cH.length,lb ys fi]
 have hx:a.eval x=.slice E1 0 0:=by
  rcases(zu e.bT h1 e1).cG with⟨_,_,hx⟩|⟨hf,_⟩|⟨hf,_⟩
  ·exact hx
  ·cases hf
  ·cases hf
 have gL:0<ys.length:=List.length_pos_iff.2 bw
 have b8:Builtin.nextslicecap (0+ys.length) 0*i.bytes≤281474976710656:=growslice_fits (by omega) (by
  rw[pF]
  exact N0 (Sp (by omega) iK) (by decide:2^30*4096≤_))
 have bp:=run_append_grow_src w t u o.type el i zv ht hi mC E1 0 0 [] (run_firstCells_none _ _ _ _ _) (a.eval y) ys.length news (jL▸hs) (by omega) (by omega) b8
 rw[←hx]at bp
 have ub:=grownCap_ge w (0+ys.length) 0 el
 have gJ:zv.cells.size=sz:=by
  obtain⟨_,zv',kY,ES,_⟩:=tZ (C:=C) hz
  have:=kY w
  simp[zeroValue,typeInfo,hi,mC]at this
  subst this
  have:=ES.length
  simp at this
  omega
 generalize dW:(([]++news).toArray++Builtin.zeroCells zv.cells (grownCap w (0+ys.length) 0 el-(0+ys.length)))=dj at bp
 generalize SH:grownCap w (0+ys.length) 0 el=gc at bp ub dW
 have ic:Ext w w.drew:=Ext.drew w
 have:=jbe (d:=d) (tmps:=a.tmps) (m.ext ic) (e.ext ic) (te:=el) (cap:=gc) (sz:=sz) (cells:=dj) hh cH SE fi cI (fun j v hj=>by
  rw[←dW,Sk,Mz (by simpa using(Gm.1 hj).1)]
  simpa using hj) (by omega) (by
   rw[←dW]
   have h5:(Builtin.zeroCells zv.cells (gc-(0+ys.length))).size=(gc-(0+ys.length))*sz:=by simp[Builtin.zeroCells,gJ]
   simp only[S2,S7,Sk,mE,h5]
   rw[←Tc]
   exact Gq _ (by omega))
 rw[Vk]at bp
 exact⟨_,_,et bp,this⟩
theorem jfo (m:av P C ω w0 C0 hp w)(e:aj C ω w w0.heap.size env a.tmps){t el:TypeId}{ps:Array (Nat×Operand)}{len sz h0 rk:Nat}{z:List qa}{ft:List (Nat×qh)}{qs:List (Nat×qa)}{xs:List qa}{h':j8}
  (ho:o.op=.buildSlice t len ps) (ht:P.underlying t=I (.slice el)) (hn:yg P el=I sz) (hz:ef P el=I z) (hlen:sz*len≤65536) (Sy:0<sz) (gJ:z.length=sz)
  (lP:wA ps.toList=I ft) (hq:iA env sz ft=I qs) (hx:kQ (N3 len (tY sz z)) qs=I xs) (zE:zw 0 xs=Gp) (cW:aJ h0 hp rk (.vec sz 0 xs)=I h'):
  ∃v w',(execOp a.eval o).run P w=.ok (.value v) w'∧kf P C0 w0 C a.tmps d env ⟨.ak (h0+rk) 0 xs.length,Gk,E1,h'⟩ v w':=by
 obtain⟨hh,rfl⟩:=li cW
 obtain⟨ds,bp,hdr,h1,oL,iY,b8⟩:=qnl (C:=C) (ω:=ω) (w:=w) (w0:=w0) e ho ht hn hz hlen Sy gJ lP hq hx
 refine⟨_,_,bp,?_⟩
 have ep:=jbe (d:=d) (tmps:=a.tmps) m e (te:=el) (cap:=len) (sz:=sz) (cells:=ds) hh hdr zE oL h1 (by intro j v h;simpa using h) (by omega) b8
 rw[iY]at ep ⊢
 exact ep
theorem jas (m:av P C ω w0 C0 hp w)(e:aj C ω w w0.heap.size env a.tmps){t:TypeId}{z:List qa}(ho:o.op=.alloc t)(hz:ef P t=I z):
  ∃v w',(execOp a.eval o).run P w=.ok (.value v) w'∧kf P C0 w0 C a.tmps d env ⟨.cE z.length,Gp,E1,hp⟩ v w':=by
 obtain⟨_,zv,kG,cw,kY⟩:=tZ (C:=C) hz
 have hx:Ext w (w.alloc (.cells zv.cells t)):=Ext.alloc w _ (fun c t fr h=>by cases h;rfl)
 have gJ:zv.cells.size=z.length:=by have:=cw.length;simpa using this
 refine⟨.pointer (I ⟨w.heap.size,0,E1⟩),_,by simp[execOp,ho,Instr.alloc,kG,newVar,newRow],C,Abs.cr ω w.heap.size d,ay.le_refl C,(m.jI _ d (Md _)).ext hx,(e.fresh (Md _)).ext hx,.cE _ _,fun _=>?_⟩
 refine⟨by simp[Abs.cr],.inl m.size,fun b hb=>by have:=(m.lt b _ hb).1;simp at this,rfl,rfl,⟨zv.cells,t,by rw[u0,if_pos rfl],by simp;omega,fun _ _ _ h=>by simp at h⟩,fun o _=>m.iV _ (Md _) o⟩
theorem q8c (m:av P C ω w0 C0 hp w)(e:aj C ω w w0.heap.size env a.tmps){t:TypeId}{x y:Operand}{y':qh}{n s:Nat}{v:qa}(ho:o.op=.store t x y)(hn:yg P t=I n)
  (h1:zr x=I (.tmp s)) (h2:zr y=I y') (hl:yd s env=I (.cE n,Gp)) (e2:zd env y'=I v) (vd:v.flat.length=n) (hs:v.flat.all ze=Gp):
  ∃w' C' ω',(execOp a.eval o).run P w=.ok .skip w'∧C.le C'∧av P C' ω' w0 C0 hp w'∧aj C' ω' w' w0.heap.size ((s,.ah v,Gk)::env) a.tmps:=by
 obtain⟨cv,c1,c2,c3⟩:=e s _ hl
 have gB:a.eval x=cv:=by
  cases x with
  |tmp t'=>
   simp only[zr]at h1
   cases h1
   simp[Act.eval,Ss,c1]
  |const u=>simp only[zr]at h1;split at h1<;>cases h1
  |func f=>simp[zr]at h1
  |global g=>simp[zr]at h1
 cases c2 with
 |cE _ ad=>
  obtain⟨hω,hB,hβ,lO,vb,⟨cells,te,hg,b8,_⟩,hK⟩:=c3 rfl
  obtain⟨r,q,sp⟩:=ad
  simp only at hω hB hβ lO vb hg b8 hK
  subst lO
  subst vb
  have ry:=zu e.bT h2 e2
  have hc:=yV ry hs
  have cI:=yX hc (fun y hy=>List.all_eq_true.1 hs y hy)
  have dp:(a.eval y).cells.toList.length=n:=by rw[hc.length,vd]
  have bp:=Sw (P:=P) (t:=t) (off:=0) hn dp hg (by omega) cI
  obtain⟨m',e',hle⟩:=qw2 (d:=.slot s) m e (r:=r) (q:=0) (news:=(a.eval y).cells.toList) hω hB hβ hg (by omega) (fun o _=>hK o (by simp)) cI
  refine⟨_,_,_,?_,hle,m',?_⟩
  ·simp only[execOp,ho,Instr.storeAt,Sem.run_bind,gB,Instr.sureAddr,Sem.run_pure,Result.andThen_ok,bp]
  ·intro t' z hz
   by_cases lg:t'=s
   ·subst lg
    simp only[yd,Nat.beq_refl,cT,I.injEq]at hz
    subst hz
    exact⟨_,c1,.ah _ _ _ (ay.eF (fun o _=>hK o (by simp)) hc),by simp⟩
   ·have hb:Mw s t'=Gk:=by
     cases hb:Mw s t' with
     |false=>rfl
     |true=>exact absurd (Gl hb).symm lg
    simp only[yd,hb,cond_false]at hz
    refine e' t' z ?_
    simp only[k9,hl,yd,hb,cond_false]
    exact hz
end
section
variable {P:Program}{C C0:ay}{ω:Nat→Option Loc}{w w' w0:World}{hp:j8}{env:Env}{a:Act}{o:Oper}{tmps:Array Value}{d:Loc}
def jB (w:World)(r:Nat)(x:Obj):World:={ w with heap:=w.heap.setIfInBounds r x }
theorem E5 {r:Nat}{x:Obj}(h:r<w.heap.size):(jB w r x).heap[r]?=I x:=by
 show(w.heap.setIfInBounds r x)[r]?=_
 rw[Array.getElem?_setIfInBounds_self_of_lt h]
theorem Dc {r:Nat}{x:Obj}(h:r<w.heap.size)(hx:∀c t fr,x=.cells c t fr→fr=(0,0)):jk w (jB w r x) r where
 size:=by simp[jB]
 other k hk:=by
  show(w.heap.setIfInBounds r x)[k]?=_
  rw[Array.getElem?_setIfInBounds_ne (Ne.symm hk)]
 fz c t fr hc:=by
  rw[E5 h]at hc
  exact hx c t fr (I.inj hc)
 os:=rfl
 output:=rfl
theorem wL {r:Nat}{x y:Obj}(h:w.heap[r]?=I y)(hy:∀c t f,y≠.cells c t f):(setObj r x).run P w=.ok () (jB w r x):=by
 cases y with
 |cells c t f=>exact absurd rfl (hy c t f)
 |_=>simp[setObj,Sem.run,jB,h]
theorem oN {r:Nat}{y:Obj}(h:w.heap[r]?=I y)(hy:∀c t f,y≠.cells c t f):(getObj r).run P w=.ok y w:=by
 cases y with
 |cells c t f=>exact absurd rfl (hy c t f)
 |_=>simp[getObj,Sem.run,h]
theorem jdh (m:av P C ω w0 C0 hp w)(e:aj C ω w w0.heap.size env a.tmps){x:Operand}{x':qh}{b pos:Nat}{s:List UInt8}(ho:o.op=.next x Gp)(h1:zr x=I x')(e1:zd env x'=I (.ptr b 0))(fZ:hp[b]?=I (.iter s pos)):
  (pos<s.length→∀h',yj hp b (.iter s (pos+(zf s pos).2))=I h'→∃v w',(execOp a.eval o).run P w=.ok (.value v) w'∧kf P C0 w0 C a.tmps d env ⟨.aC [.bool Gp,.int .i64 pos,.int .i32 (zf s pos).1],Gk,E1,h'⟩ v w') ∧
  (¬pos<s.length→∃v w',(execOp a.eval o).run P w=.ok (.value v) w'∧kf P C0 w0 C a.tmps d env ⟨.aC [.bool Gk],Gk,E1,hp⟩ v w'):=by
 obtain⟨r,hr,hq⟩:=(zu e.bT h1 e1).cU
 have fY:w.heap[r]?=I (.stringIter ⟨⟨s⟩⟩ pos):=m.box b _ r fZ hr
 have aX:=(m.lt b r hr).1
 have cD:(⟨⟨s⟩⟩:ByteArray).size=s.length:=rfl
 constructor
 ·intro gL h' bm
  obtain rfl:=zo bm
  have hu:=Dc (w:=w) (r:=r) (x:=.stringIter ⟨⟨s⟩⟩ (pos+(zf s pos).2)) aX (by simp)
  refine⟨.tuple #[.bool Gp,goInt pos,.int .i32 (zf s pos).1],jB w r (.stringIter ⟨⟨s⟩⟩ (pos+(zf s pos).2)),?_,C,ω,ay.le_refl C,m.du hu hr _ (fun _ _ _ _ _ h=>h) (E5 aX),e.de hu hr,?_,by simp⟩
  ·have ec:pos<(⟨⟨s⟩⟩:ByteArray).size:=gL
   have bm:=wL (P:=P) (x:=.stringIter ⟨⟨s⟩⟩ (pos+(zf s pos).2)) fY (by simp)
   simp only[execOp,ho,hq,Instr.next,Sem.run_bind,oN fY (by simp),Result.andThen_ok,ec,if_true]
   unfold zf at bm ⊢
   simp only[Sem.run_bind,bm,Result.andThen_ok,Sem.run_pure]
  ·refine .aC _ _ (.cons _ _ _ _ (.bool _) (.cons _ _ _ _ ?_ (.cons _ _ _ _ (.int _ _) .nil)))
   exact .int _ _
 ·intro gL
  have ec:¬pos<(⟨⟨s⟩⟩:ByteArray).size:=gL
  refine⟨.tuple #[.bool Gk],w,?_,q40 m e (.aC _ _ (.cons _ _ _ _ (.bool _) .nil))⟩
  simp only[execOp,ho,hq,Instr.next,Sem.run_bind,oN fY (by simp),Result.andThen_ok,ec,if_false,Sem.run_pure]
theorem SK {t:TypeId}{kd:Kd}(h:jH P t=I kd):(kd=.int∧∃k,P.underlying t=I (.int k))∨(kd=.str∧P.underlying t=I .string)∨(kd=.bool∧P.underlying t=I .bool):=by
 unfold jH at h
 split at h<;>first|cases h|skip
 ·exact .inl ⟨rfl,_,‹_›⟩
 ·exact .inr (.inl ⟨rfl,‹_›⟩)
 ·exact .inr (.inr ⟨rfl,‹_›⟩)
theorem qwd {t:TypeId}{td:TypeDesc}{kd:Kd}{x y:qa}{u v:Value}{b:Bool}(ht:P.underlying t=I td)(hk:jH P t=I kd)(hx:bD C x u)(hy:bD C y v)(h:kN kd x y=I b):Instr.sameNow td u v=I b∧(b=Gp→x=y∧u=v∧Instr.sameBits 10000 v u=Gp):=by
 rcases SK hk with⟨rfl,k,hu⟩|⟨rfl,hu⟩|⟨rfl,hu⟩<;>rw[hu]at ht<;>cases ht
 ·cases x<;>cases y<;>simp only[kN]at h<;>first|cases h|skip
  rename_i k1 n1 k2 n2
  have e1:=hx.bF
  have e2:=hy.bF
  subst e1;subst e2
  by_cases gM:k1=k2
  ·subst gM
   simp only[decide_true,cT,I.injEq]at h
   refine⟨by simp[Instr.sameNow,h],fun hb=>?_⟩
   subst hb
   have:n1=n2:=by simpa using h
   subst this
   exact⟨rfl,rfl,by simp[Instr.sameBits]⟩
  ·simp[gM]at h
 ·cases x<;>cases y<;>simp only[kN]at h<;>first|cases h|skip
  rename_i s1 s2
  have e1:=hx.bW
  have e2:=hy.bW
  subst e1;subst e2
  have E6:((⟨⟨s1⟩⟩:ByteArray) == ⟨⟨s2⟩⟩)=(s1 == s2):=by
   show(Array.mk s1 == Array.mk s2)=_
   simp
  refine⟨by simp only[Instr.sameNow,E6],fun hb=>?_⟩
  have wM:s1=s2:=by simpa using hb
  subst wM
  refine⟨rfl,rfl,?_⟩
  simp only[Instr.sameBits,E6]
  simp
 ·cases x<;>cases y<;>simp only[kN]at h<;>first|cases h|skip
  rename_i b1 b2
  have e1:=hx.cS
  have e2:=hy.cS
  subst e1;subst e2
  refine⟨by simp[Instr.sameNow],fun hb=>?_⟩
  have wM:b1=b2:=by simpa using hb
  subst wM
  exact⟨rfl,rfl,by simp[Instr.sameBits]⟩
theorem E7 {t:TypeId}{td:TypeDesc}{kd:Kd}{k:qa}{u:Value}(ht:P.underlying t=I td)(hk:jH P t=I kd)(hx:bD C k u):∀ {es:List (qa×qa)} {ms:List MapEntry} {i:Nat} {r:Option (Nat×qa)},qz C es ms→yw kd k es i=I r →
  match r with
  |none=>Instr.findNow td u ms i=I E1
  |some (j,v)=>∃m,i≤j∧es[j-i]?=I (k,v)∧ms[j-i]?=I m∧m.key=u∧bD C v m.val∧Instr.findNow td u ms i=I (I (j,m.val))∧Instr.sameBits 10000 m.key u=Gp
 |_,_,i,r,.nil,h=>by
  simp only[yw,I.injEq]at h
  subst h
  simp[Instr.findNow]
 |_,_,i,r,.cons k' v' es m ms h1 h2 h3,h=>by
  simp only[yw]at h
  split at h
  ·rename_i he
   cases h
   obtain⟨q1,q2⟩:=qwd ht hk hx h1 he
   obtain⟨rfl,rfl,q3⟩:=q2 rfl
   exact⟨m,Md _,by simp,by simp,rfl,h2,by simp[Instr.findNow,q1],q3⟩
  ·rename_i he
   obtain⟨q1,_⟩:=qwd ht hk hx h1 he
   have ih:=E7 ht hk hx h3 h
   cases r with
   |none=>simp only[Instr.findNow,q1];exact ih
   |some jv=>
    obtain⟨j,v⟩:=jv
    obtain⟨m2,k1,k2,k3,k4,k5,k6,k7⟩:=ih
    refine⟨m2,by omega,?_,?_,k4,k5,by simp only[Instr.findNow,q1];exact k6,k7⟩
    ·rw[show j-i=(j-(i+1))+1 from by omega];simpa using k2
    ·rw[show j-i=(j-(i+1))+1 from by omega];simpa using k3
  ·cases h
theorem Dd {t:TypeId}{kd:Kd}(hk:jH P t=I kd)(e:Bool)(v:Value):(Instr.checkKey e 10000 t v).run P w=.ok () w:=by
 rcases SK hk with⟨_,k,hu⟩|⟨_,hu⟩|⟨_,hu⟩<;>(unfold Instr.checkKey;simp[run_underlying hu])
theorem E9 {t:TypeId}{td:TypeDesc}{u:Value}{ms:List MapEntry}{r:Option (Nat×Value)}(ht:P.underlying t=I td)(h:Instr.findNow td u ms 0=I r):(Instr.findKey t u ms).run P w=.ok r w:=by
 simp[Instr.findKey,run_underlying ht,h]
theorem SL {t:TypeId}{kd:Kd}(hk:jH P t=I kd):∃td,P.underlying t=I td:=by
 rcases SK hk with⟨_,k,hu⟩|⟨_,hu⟩|⟨_,hu⟩<;>exact⟨_,hu⟩
theorem SN (m:av P C ω w0 C0 hp w)(e:aj C ω w w0.heap.size env a.tmps){t kt el:TypeId}{x y:Operand}{ok:Bool}{x' y':qh}{kd:Kd}{zv mv kv:qa}{r:Option (Nat×qa)}(ho:o.op=.lookup t x y ok)(ht:P.underlying t=I (.map kt el))(gY:jH P kt=I kd)(hz:RV P el=I zv)
  (h1:zr x=I x') (h2:zr y=I y') (e1:zd env x'=I mv) (e2:zd env y'=I kv)
  (hv:(mv=.bM∧r=E1)∨∃b es,mv=.map b∧hp[b]?=I (.map es)∧yw kd kv es 0=I r):
  Val P C a o w (match r with
   |some (_,v)=>bif ok then .aC [v,.bool Gp]else v
   |none=>bif ok then .aC [zv,.bool Gk]else zv):=by
 have gK:=zu e.bT h2 e2
 have ud:=zu e.bT h1 e1
 obtain⟨td,pO⟩:=SL gY
 obtain⟨Fc,kG,mC⟩:∃v,(∀w,(zeroValue el).run P w=.ok v w)∧bD C zv v:=by
  unfold RV at hz
  split at hz
  ·rename_i i hi
   split at hz
   ·rename_i v hv
    exact⟨v,fun w=>by simp[zeroValue,typeInfo,hi,hv],qt8 C hz⟩
   ·cases hz
  ·cases hz
 have fin:∀ {ms:List MapEntry} {rv:Option (Nat×Value)},(a.eval x=.map E1∧ms=[]∨∃q clock,a.eval x=.map (I q)∧w.heap[q]?=I (.map ⟨ms⟩ clock))→Instr.findNow td (a.eval y) ms 0=I rv →
   (execOp a.eval o).run P w=.ok (.value (if ok then .tuple #[(match rv with|some (_,v)=>v|none=>Fc),.bool rv.isSome]else(match rv with|some (_,v)=>v|none=>Fc))) w:=by
  intro ms rv hm hf
  have uf:=E9 (w:=w) pO hf
  rcases hm with⟨hm,rfl⟩|⟨q,clock,hm,hq⟩
  ·cases rv<;>simp[execOp,ho,Instr.lookup,run_underlying ht,hm,Dd gY,uf,kG]
  ·cases rv<;>simp[execOp,ho,Instr.lookup,run_underlying ht,hm,oN hq (by simp),Dd gY,uf,kG]
 rcases hv with⟨rfl,rfl⟩|⟨b,es,rfl,hb,hfe⟩
 ·generalize lQ:a.eval x=mx at ud
  cases ud
  refine⟨_,fin (ms:=[]) (rv:=none) (.inl ⟨lQ,rfl⟩) (by simp[Instr.findNow]),?_⟩
  cases ok with
  |true=>exact .aC _ _ (.cons _ _ _ _ mC (.cons _ _ _ _ (.bool _) .nil))
  |false=>exact mC
 ·generalize lQ:a.eval x=mx at ud
  cases ud with
  |map _ q nX=>
   obtain⟨bP,clock,g1,g2⟩:=m.box b _ q hb nX
   have hf:=E7 pO gY gK g2 hfe
   cases r with
   |none=>
    refine⟨_,fin (ms:=bP.toList) (rv:=none) (.inr ⟨q,clock,lQ,g1⟩) hf,?_⟩
    cases ok with
    |true=>exact .aC _ _ (.cons _ _ _ _ mC (.cons _ _ _ _ (.bool _) .nil))
    |false=>exact mC
   |some jv=>
    obtain⟨j,v⟩:=jv
    obtain⟨me,_,_,_,_,hrv,hfn,_⟩:=hf
    refine⟨_,fin (ms:=bP.toList) (rv:=I (j,me.val)) (.inr ⟨q,clock,lQ,g1⟩) hfn,?_⟩
    cases ok with
    |true=>exact .aC _ _ (.cons _ _ _ _ hrv (.cons _ _ _ _ (.bool _) .nil))
    |false=>exact hrv
theorem qz.ia {k v:qa}:∀ {es:List (qa×qa)} {ms:List MapEntry} {j:Nat} {m:MapEntry},qz C es ms→bD C v m.val→(∀k',(es[j]?).map (·.1)=I k'→bD C k' m.key)→qz C (px es j v) (ms.set j m)
 |_,_,j,m,.nil,_,_=>by simp[px];exact .nil
 |_,_,0,m,.cons k' v' es m' ms h1 h2 h3,hv,hk=>by
  simp only[px,List.set_cons_zero]
  exact .cons _ _ _ _ _ (hk k' (by simp)) hv h3
 |_,_,j+1,m,.cons k' v' es m' ms h1 h2 h3,hv,hk=>by
  simp only[px,List.set_cons_succ]
  exact .cons _ _ _ _ _ h1 h2 (qz.ia (k:=k) h3 hv (fun k' h=>hk k' (by simpa using h)))
theorem qz.push {k v:qa}{m:MapEntry}{es:List (qa×qa)}{ms:List MapEntry}(h:qz C es ms)(hk:bD C k m.key)(hv:bD C v m.val):qz C (es++[(k,v)]) (ms++[m]):=by
 induction h with
 |nil=>exact .cons _ _ _ _ _ hk hv .nil
 |cons k' v' es m' ms h1 h2 _ ih=>exact .cons _ _ _ _ _ h1 h2 ih
theorem qpt (m:av P C ω w0 C0 hp w)(e:aj C ω w w0.heap.size env a.tmps){t kt el:TypeId}{x y z:Operand}{x' y' z':qh}{kd:Kd}{kv v:qa}{b:Nat}{es:List (qa×qa)}{h':j8}(ho:o.op=.mapUpdate t x y z∨o.op=.insert t x y z)(ht:P.underlying t=I (.map kt el))(gY:jH P kt=I kd)
  (h1:zr x=I x') (h2:zr y=I y') (h3:zr z=I z') (e1:zd env x'=I (.map b)) (e2:zd env y'=I kv) (e3:zd env z'=I v) (hb:hp[b]?=I (.map es))
  (hv:(∃i u,yw kd kv es 0=I (I (i,u))∧yj hp b (.map (px es i v))=I h')∨(yw kd kv es 0=I E1∧yj hp b (.map (es++[(kv,v)]))=I h')):
  ∃w',(execOp a.eval o).run P w=.ok .skip w'∧kf P C0 w0 C a.tmps d env ⟨.undef,Gk,E1,h'⟩ undef w':=by
 have gK:=zu e.bT h2 e2
 have hvr:=zu e.bT h3 e3
 have ud:=zu e.bT h1 e1
 obtain⟨td,pO⟩:=SL gY
 generalize lQ:a.eval x=mx at ud
 cases ud with
 |map _ q nX=>
  obtain⟨bP,clock,g1,g2⟩:=m.box b _ q hb nX
  have aX:=(m.lt b q nX).1
  have done:∀(zG:List (qa×qa)) (pP:Array MapEntry) (jO:Nat),qz C zG pP.toList→yj hp b (.map zG)=I h' →
    (execOp a.eval o).run P w=.ok .skip (jB w q (.map pP jO))→∃w',(execOp a.eval o).run P w=.ok .skip w'∧kf P C0 w0 C a.tmps d env ⟨.undef,Gk,E1,h'⟩ undef w':=by
   intro zG pP jO vi bm bp
   obtain rfl:=zo bm
   have hu:=Dc (w:=w) (r:=q) (x:=.map pP jO) aX (by simp)
   exact⟨_,bp,C,ω,ay.le_refl C,m.du hu nX _ (fun _ _ _ _ _ h=>h) ⟨pP,jO,E5 aX,vi⟩,e.de hu nX,.undef,by simp⟩
  rcases hv with⟨i,u,hf,bm⟩|⟨hf,bm⟩
  ·obtain⟨me,_,k1,k2,k3,k4,k5,k6⟩:=E7 pO gY gK g2 hf
   have uf:=E9 (w:=w) pO k5
   simp only[Nat.sub_zero]at k1 k2
   have SP:bP[i]?=I me:=by simpa using k2
   have hlen:i<bP.size:=(Mx.1 SP).1
   refine done (px es i v) (bP.modify i fun e=>{ e with key:=a.eval y,val:=a.eval z }) clock ?_ bm ?_
   ·have:(bP.modify i fun e=>{ e with key:=a.eval y,val:=a.eval z }).toList=bP.toList.set i { me with key:=a.eval y,val:=a.eval z }:=by
     apply Vs
     intro j
     rw[G2,Array.getElem?_modify,List.getElem?_set]
     by_cases oK:i=j
     ·subst oK
      have hgi:=(Mx.1 SP).2
      simp[hlen,hgi]
     ·simp[oK]
    rw[this]
    refine qz.ia (k:=kv) g2 hvr (fun k' eu=>?_)
    rw[k1]at eu
    cases eu
    exact gK
   ·have fG:=wL (P:=P) (x:=.map (bP.modify i fun e=>{ e with key:=a.eval y,val:=a.eval z }) clock) g1 (by simp)
    have Fe:∀w:World,(Instr.keyThatStays (((bP[i]?).map (·.key)).getD (a.eval y)) (a.eval y)).run P w=.ok (a.eval y) w:=by
     intro w
     simp[Instr.keyThatStays,SP,k6]
    rcases ho with ho|ho<;>simp only[execOp,ho,Instr.mapUpdate,Sem.run_bind,run_underlying ht,Result.andThen_ok,lQ,oN g1 (by simp),Dd gY,uf,Fe,fG,Sem.run_pure]
  ·have R6:=E7 pO gY gK g2 hf
   have uf:=E9 (w:=w) pO R6
   refine done (es++[(kv,v)]) (bP.push { key:=a.eval y,val:=a.eval z,born:=clock }) (clock+1) ?_ bm ?_
   ·rw[Array.toList_push]
    exact g2.push gK hvr
   ·have fG:=wL (P:=P) (x:=.map (bP.push { key:=a.eval y,val:=a.eval z,born:=clock }) (clock+1)) g1 (by simp)
    rcases ho with ho|ho<;>simp only[execOp,ho,Instr.mapUpdate,Sem.run_bind,run_underlying ht,Result.andThen_ok,lQ,oN g1 (by simp),Dd gY,uf,fG,Sem.run_pure]
end
section
variable {P:Program}{C C0:ay}{ω:Nat→Option Loc}{w w' w0:World}{hp:j8}{env:Env}{a:Act}{o:Oper}{tmps:Array Value}{d:Loc}
theorem q00 {n sz len cap:Nat}{base:Option Addr}{cs:List Value}(hl:cs.length=n*sz)(h:∀ad,base=I ad→∀j v,cs[j]?=I v→w.cell? (ad.add j)=I v)(hn:base=E1→n=0):
  (Builtin.firstCells sz n (.slice base len cap)).run P w=.ok cs.toArray w:=by
 cases base with
 |none=>
  have:cs=[]:=by
   have:=hn rfl
   subst this
   exact List.length_eq_zero_iff.1 (by simpa using hl)
  subst this
  exact run_firstCells_none _ _ _ _ _
 |some ad=>exact run_firstCells_some w _ _ _ _ _ cs hl (h ad rfl)
theorem jeq (m:av P C ω w0 C0 hp w)(e:aj C ω w w0.heap.size env a.tmps){c:Call}{t:TypeId}{ts:List TypeId}{el:TypeId}{x y:Operand}{x' y':qh}{sz b q len n:Nat}{vy:qa}{us:List qa}{cs dQ:List (qa×Bool)}{h':j8}
  (ho:o.op=.call c) (dx:c.callee=.builtin .copy) (dG:c.args.toList=[x,y]) (dU:c.argTypes.toList=t::ts) (ht:P.underlying t=I (.slice el)) (hn:yg P el=I sz)
  (h1:zr x=I x') (h2:zr y=I y') (e1:zd env x'=I (.ms b q len)) (e2:zd env y'=I vy) (kI:yl hp b=I cs) (cy:yK sz len vy=I (n,us)) (bS:yi cs q us=I dQ) (Sb:us.length=n*sz) (bm:yj hp b (.cells dQ)=I h'):
  ∃u w',(execOp a.eval o).run P w=.ok (.value u) w'∧kf P C0 w0 C a.tmps d env ⟨.int .i64 n,Gk,E1,h'⟩ u w':=by
 obtain⟨r,cap,hr,hle,hq⟩:=(zu e.bT h1 e1).eo
 have ry:=zu e.bT h2 e2
 unfold yi at bS
 cases hb:(Nat.ble (q+us.length) cs.length&&us.all ze)with
 |false=>simp[hb]at bS
 |true=>
  simp only[hb,cT,I.injEq]at bS
  simp only[Gn]at hb
  subst bS
  -- the source
  obtain⟨news,base,sl,sc,hy,cH,hcells,SQ,pH⟩:∃news base sl sc,a.eval y=.slice base sl sc∧aM C us news∧(∀ad,base=I ad→∀j v,news[j]?=I v→w.cell? (ad.add j)=I v)∧Nat.min sl len=n∧(base=E1→n=0):=by
   unfold yK at cy
   split at cy
   ·rename_i nn sy ys
    cases hk:(Mw sz sy||ys.isEmpty)with
    |false=>simp[hk]at cy
    |true=>
     simp only[hk,cT,I.injEq,Prod.mk.injEq]at cy
     obtain⟨rfl,rfl⟩:=cy
     generalize a.eval y=vv at ry
     cases ry with
     |iH=>exact⟨[],E1,0,0,rfl,by simpa using qp.nil,by simp,by simp[Nat.min_def],by simp⟩
     |iI _ ad _=>exact⟨[],I ad,0,0,rfl,by simpa using qp.nil,by simp,by simp,by simp⟩
     |list _ _ r' o' jN hl cL=>
      have hc:bY C r' ((ys.take len).flatMap qa.flat) o':=aY.cells (aY.take len cL)
      obtain⟨vs,k1,k2⟩:=hc.vals
      refine⟨vs,I ⟨r',o',E1⟩,ys.length,jN,rfl,k1,?_,rfl,by simp⟩
      intro ad had j v hj
      cases had
      rw[add_lit]
      exact m.know _ _ _ (k2 j v hj)
   ·cases cy
  have cI:=yX cH (by simpa using hb.2)
  obtain⟨vs,te,hg,b8,m',e'⟩:=q4i m e (vf kI) hr cH cI (Td hb.1)
  obtain rfl:=zo bm
  have hfc:=q00 (P:=P) (w:=w) (n:=n) (sz:=sz) (len:=sl) (cap:=sc) (base:=base) (cs:=news) (by rw[cH.length,Sb]) hcells pH
  have Ff:=run_storeCells_at (P:=P) r q te news 0 vs w hg (by simpa using b8) cI
  simp only[Nat.add_zero]at Ff
  have bp:(Builtin.copy_ c.argTypes o.type (c.args.map a.eval)).run P w=.ok (goInt n) (w.setRow r (vs.toList.take q++news++vs.toList.drop (q+news.length)).toArray):=by
   have ha:c.args.map a.eval=#[a.eval x,a.eval y]:=by
    apply Hb;simp[dG]
   have hat:c.argTypes[0]?=I t:=by rw[←G2,dU];rfl
   rw[ha]
   simp only[Builtin.copy_,hat,Ha,N1,N2,Sem.run_bind,run_underlying ht,Result.andThen_ok,hq,hy,Builtin.lenOf,Sem.run_pure,SQ,iJ hn,hfc,Ff]
  refine⟨goInt n,_,?_,C,ω,ay.le_refl C,m',e',?_,by simp⟩
  ·have ha:Array.map a.eval c.args=#[a.eval x,a.eval y]:=by
    apply Hb;simp[dG]
   rw[ha]at bp
   simp[execOp,ho,resolve,dx,ha,invoke,builtin,bp]
  ·exact .int _ _
theorem qz.erase:∀ {es:List (qa×qa)} {ms:List MapEntry} (j:Nat),qz C es ms→qz C (es.eraseIdx j) (ms.eraseIdx j)
 |_,_,j,.nil=>by simpa using qz.nil
 |_,_,0,.cons k' v' es m' ms h1 h2 h3=>by simpa using h3
 |_,_,j+1,.cons k' v' es m' ms h1 h2 h3=>by simpa using .cons _ _ _ _ _ h1 h2 (qz.erase j h3)
theorem q9w (m:av P C ω w0 C0 hp w)(e:aj C ω w w0.heap.size env a.tmps){c:Call}{t kt el:TypeId}{ts:List TypeId}{x y:Operand}{x' y':qh}{kd:Kd}{kv:qa}{b:Nat}{es:List (qa×qa)}{h':j8}{r:Option (Nat×qa)}
  (ho:o.op=.call c) (dx:c.callee=.builtin .delete) (dG:c.args.toList=[x,y]) (dU:c.argTypes.toList=t::ts) (ht:P.underlying t=I (.map kt el)) (gY:jH P kt=I kd)
  (h1:zr x=I x') (h2:zr y=I y') (e1:zd env x'=I (.map b)) (e2:zd env y'=I kv) (hb:hp[b]?=I (.map es))
  (hf:yw kd kv es 0=I r) (bm:yj hp b (.map (q48 es r))=I h'):
  ∃u w',(execOp a.eval o).run P w=.ok (.value u) w'∧kf P C0 w0 C a.tmps d env ⟨.aC [],Gk,E1,h'⟩ u w':=by
 have gK:=zu e.bT h2 e2
 have ud:=zu e.bT h1 e1
 obtain⟨td,pO⟩:=SL gY
 have ha:Array.map a.eval c.args=#[a.eval x,a.eval y]:=by
  apply Hb;simp[dG]
 have hat:c.argTypes[0]?=I t:=by rw[←G2,dU];rfl
 generalize lQ:a.eval x=mx at ud
 cases ud with
 |map _ q nX=>
  obtain⟨bP,clock,g1,g2⟩:=m.box b _ q hb nX
  have aX:=(m.lt b q nX).1
  have done:∀(zG:List (qa×qa)) (pP:Array MapEntry),qz C zG pP.toList→yj hp b (.map zG)=I h' →
    (Builtin.delete_ c.argTypes o.type #[.map (I q),a.eval y]).run P w=.ok (.tuple #[]) (jB w q (.map pP clock))→∃u w',(execOp a.eval o).run P w=.ok (.value u) w'∧kf P C0 w0 C a.tmps d env ⟨.aC [],Gk,E1,h'⟩ u w':=by
   intro zG pP vi bm bp
   obtain rfl:=zo bm
   have hu:=Dc (w:=w) (r:=q) (x:=.map pP clock) aX (by simp)
   refine⟨.tuple #[],_,?_,C,ω,ay.le_refl C,m.du hu nX _ (fun _ _ _ _ _ h=>h) ⟨pP,clock,E5 aX,vi⟩,e.de hu nX,.aC _ _ .nil,by simp⟩
   simp[execOp,ho,resolve,dx,ha,lQ,invoke,builtin,bp]
  have hfn:=E7 pO gY gK g2 hf
  cases r with
  |none=>
   have uf:=E9 (w:=w) pO hfn
   refine done es bP g2 bm ?_
   have fG:=wL (P:=P) (x:=.map bP clock) g1 (by simp)
   simp only[Builtin.delete_,hat,Ha,N1,N2,Sem.run_bind,run_underlying ht,Result.andThen_ok,oN g1 (by simp),Dd gY,uf,fG,Sem.run_pure]
  |some jv=>
   obtain⟨j,v⟩:=jv
   obtain⟨me,_,k1,k2,k3,k4,k5,k6⟩:=hfn
   have uf:=E9 (w:=w) pO k5
   refine done (es.eraseIdx j) (bP.eraseIdxIfInBounds j) ?_ bm ?_
   ·have:(bP.eraseIdxIfInBounds j).toList=bP.toList.eraseIdx j:=by simp
    rw[this];exact qz.erase j g2
   ·have fG:=wL (P:=P) (x:=.map (bP.eraseIdxIfInBounds j) clock) g1 (by simp)
    simp only[Builtin.delete_,hat,Ha,N1,N2,Sem.run_bind,run_underlying ht,Result.andThen_ok,oN g1 (by simp),Dd gY,uf,fG,Sem.run_pure]
end
section
variable {P:Program}{p:qt}{xc:XC}{C C0:ay}{ω:Nat→Option Loc}{w w0:World}{hp:j8}{env:Env}{a:Act}{o:Oper}{d:Loc}{h:qb}{md:jd}{r h0:Nat}{dst:Option Nat}{al:Option (List Nat)}{cn:qw}{res:qq}
def dR (P:Program)(C C0:ay)(w0:World)(a:Act)(d:Loc)(env:Env)(o:Oper)(w:World)(res:qq):Prop:=
 (∃v w',(execOp a.eval o).run P w=.ok (.value v) w'∧kf P C0 w0 C a.tmps d env res v w') ∨
 (∃w',(execOp a.eval o).run P w=.ok .skip w'∧kf P C0 w0 C a.tmps d env res undef w') ∨
 (∃f args,(execOp a.eval o).run P w=.ok (.enter f args) w∧CallsIn Fence.wide 0 P f args w fun e w'=>∃v,e=.returned v∧kf P C0 w0 C a.tmps d env res v w') ∨
 (∃l f tmps assign body,(execOp a.eval o).run P w=.ok (.round l f tmps assign body) w∧RoundIn Fence.wide 0 P l f tmps assign body w fun e w'=>∃v,e=.returned v∧kf P C0 w0 C a.tmps d env res v w')
theorem yc (m:av P C ω w0 C0 hp w)(e:aj C ω w w0.heap.size env a.tmps){x:qa}(hv:Val P C a o w x):dR P C C0 w0 a d env o w ⟨x,Gk,E1,hp⟩:=by
 obtain⟨v,h1,h2⟩:=hv
 exact .inl ⟨v,w,h1,q40 m e h2⟩
theorem zx {x:qa}(hs:val hp x=I res):res=⟨x,Gk,E1,hp⟩:=by simpa[val]using hs.symm
theorem ug {x:Option qa}(hs:fU hp x=I res):∃v,x=I v∧res=⟨v,Gk,E1,hp⟩:=by
 cases x with
 |none=>simp[fU]at hs
 |some v=>exact⟨v,rfl,by simpa[fU]using hs.symm⟩
theorem Ms (m:av P C ω w0 C0 hp w)(e:aj C ω w w0.heap.size env a.tmps){x:Operand}(ho:o.op=.move x∨o.op=.assign x){y:qh}(hc:zr x=I y)(hs:zi env hp (.move y)=I res):dR P C C0 w0 a d env o w res:=by
 simp only[zi]at hs
 obtain⟨v,hv,rfl⟩:=ug hs
 exact yc m e (jis e.bT ho hc hv)
theorem q4n (m:av P C ω w0 C0 hp w)(e:aj C ω w w0.heap.size env a.tmps){s:Nat}(ho:o.op=.move (.tmp s)∨o.op=.assign (.tmp s))(hs:zi env hp (.take s)=I res):dR P C C0 w0 a d env o w res:=by
 simp only[zi]at hs
 split at hs
 ·rename_i v ow hl
  cases hs
  exact .inl (jdk m e ho hl)
 ·cases hs
theorem jfm (m:av P C ω w0 C0 hp w)(e:aj C ω w w0.heap.size env a.tmps){x:Operand}(ho:o.op=.move x)(hc:cx P h md r dst (.move x)=I cn)(hs:za p xc h0 al env hp cn=I res):dR P C C0 w0 a d env o w res:=by
 simp only[cx]at hc
 split at hc
 ·rename_i s ht
  cases hc
  unfold q6r at ht
  split at ht
  ·split at ht
   ·cases ht;exact q4n m e (.inl ho) hs
   ·cases ht
  ·cases ht
 ·obtain⟨y,hy,rfl⟩:=En.1 hc
  exact Ms m e (.inl ho) hy hs
theorem jaf (m:av P C ω w0 C0 hp w)(e:aj C ω w w0.heap.size env a.tmps){x:Operand}(ho:o.op=.assign x)(hc:cx P h md r dst (.assign x)=I cn)(hs:za p xc h0 al env hp cn=I res):dR P C C0 w0 a d env o w res:=by
 cases x with
 |tmp s=>simp only[cx]at hc;cases hc;exact q4n m e (.inr ho) hs
 |const v=>simp only[cx]at hc;obtain⟨y,hy,rfl⟩:=En.1 hc;exact Ms m e (.inr ho) hy hs
 |func v=>simp only[cx]at hc;obtain⟨y,hy,rfl⟩:=En.1 hc;exact Ms m e (.inr ho) hy hs
 |global v=>simp only[cx]at hc;obtain⟨y,hy,rfl⟩:=En.1 hc;exact Ms m e (.inr ho) hy hs
theorem jim (m:av P C ω w0 C0 hp w)(e:aj C ω w w0.heap.size env a.tmps){c x y:Operand}(ho:o.op=.pick c x y)(hc:cx P h md r dst (.pick c x y)=I cn)(hs:za p xc h0 al env hp cn=I res):dR P C C0 w0 a d env o w res:=by
 simp only[cx]at hc
 split at hc
 ·rename_i c' x' y' h1 h2 h3
  cases hc
  simp only[za,zi]at hs
  split at hs
  ·rename_i b e1
   split at hs
   ·rename_i u v e2 e3
    obtain rfl:=zx hs
    exact yc m e (je6 e.bT ho h1 h2 h3 e1 e2 e3)
   ·cases hs
  ·cases hs
 ·cases hc
theorem q17 (m:av P C ω w0 C0 hp w)(e:aj C ω w w0.heap.size env a.tmps){x:Operand}(ho:o.op=.nilCheck x)(hc:cx P h md r dst (.nilCheck x)=I cn)(hs:za p xc h0 al env hp cn=I res):dR P C C0 w0 a d env o w res:=by
 simp only[cx]at hc
 obtain⟨y,hy,rfl⟩:=En.1 hc
 simp only[za,zi]at hs
 split at hs
 ·rename_i b q hv;obtain rfl:=zx hs;exact yc m e (qq4 e.bT ho hy hv (.inl ⟨_,_,rfl⟩))
 ·rename_i z hv;obtain rfl:=zx hs;exact yc m e (qq4 e.bT ho hy hv (.inr ⟨_,rfl⟩))
 ·rename_i f u v hv
  obtain rfl:=zx hs
  have hr:=zu e.bT hy hv
  refine yc m e ⟨a.eval x,?_,hr⟩
  generalize hx:a.eval x=ev at hr
  cases hr with
  |fn f f' u v as bs hf ha hb=>
   simp only[eS]at hf
   subst hf
   simp[execOp,ho,hx]
 ·cases hs
theorem jpa (m:av P C ω w0 C0 hp w)(e:aj C ω w w0.heap.size env a.tmps){op:UnOp}{t:TypeId}{x:Operand}(ho:o.op=.unOp op t x)(hc:cx P h md r dst (.unOp op t x)=I cn)(hs:za p xc h0 al env hp cn=I res):dR P C C0 w0 a d env o w res:=by
 simp only[cx]at hc
 obtain⟨y,hy,rfl⟩:=En.1 hc
 simp only[za,zi]at hs
 split at hs
 ·rename_i v hv
  obtain⟨u,hu,rfl⟩:=ug hs
  exact yc m e (jty e.bT ho hy hv hu)
 ·cases hs
theorem jia (m:av P C ω w0 C0 hp w)(e:aj C ω w w0.heap.size env a.tmps){s t:TypeId}{x:Operand}(ho:o.op=.convert s t x)(hc:cx P h md r dst (.convert s t x)=I cn)(hs:za p xc h0 al env hp cn=I res):dR P C C0 w0 a d env o w res:=by
 simp only[cx]at hc
 split at hc
 ·rename_i k0 k u1 u2
  obtain⟨y,hy,rfl⟩:=En.1 hc
  simp only[za,zi]at hs
  split at hs
  ·rename_i k1 n hv
   obtain rfl:=zx hs
   exact yc m e (jdo e.bT ho u1 u2 hy hv)
  ·cases hs
 ·rename_i u1 u2
  obtain⟨y,hy,rfl⟩:=En.1 hc
  simp only[za,zi]at hs
  split at hs
  ·rename_i l hv
   obtain rfl:=zx hs
   exact yc m e (q5t e.bT ho u1 u2 hy hv ⟨_,rfl⟩)
  ·rename_i k1 n hv
   obtain rfl:=zx hs
   exact yc m e (q3d e.bT ho u1 u2 hy hv)
  ·cases hs
 ·rename_i k0 u1 u2
  obtain⟨y,hy,rfl⟩:=En.1 hc
  simp only[za,zi]at hs
  split at hs
  ·rename_i l hv
   obtain rfl:=zx hs
   exact yc m e (q30 e.bT ho u1 u2 hy hv ⟨_,rfl⟩)
  ·rename_i k1 n hv
   obtain rfl:=zx hs
   exact yc m e (q5v e.bT ho u1 u2 hy hv)
  ·cases hs
 ·cases hc
theorem q7a {ag:Bool}{n:Nat}{y:qh}(hs:zi env hp (.eN ag n y)=I res):gT h0 al env hp (.load ag n y)=I res:=by
 simp only[zi]at hs
 simp only[gT]
 split at hs
 ·rename_i v hv
  rw[hv];exact hs
 ·cases hs
theorem qz8 {g:Nat}:∀ {l:List (String×List Int)} {cs:List Int},EB P g l=I cs→∃n,(n,cs)∈l∧P.globalNamed n=I g
 | [],_,h=>by simp[EB]at h
 |(n,ds)::l,cs,h=>by
  simp only[EB]at h
  split at h
  ·rename_i hn
   cases h
   exact⟨n,Tq ..,by simpa using hn⟩
  ·obtain⟨n',h1,h2⟩:=qz8 h
   exact⟨n',Tk _ h1,h2⟩
theorem ja5 {ns:List Int}:aM C (ns.map (qa.int .i64)) (ns.map (Value.int .i64)):=by
 induction ns with
 |nil=>exact .nil
 |cons n ns ih=>exact .cons _ _ _ _ (.int _ _) ih
theorem jc9 (m:av P C ω w0 C0 hp w)(e:aj C ω w w0.heap.size env a.tmps){t:TypeId}{g:Nat}(ho:o.op=.load t (.global g))(hc:cx P h md r dst (.load t (.global g))=I cn)(hs:za p xc h0 al env hp cn=I res):dR P C C0 w0 a d env o w res:=by
 have hc:L3 P t g=I cn:=hc
 unfold L3 at hc
 split at hc
 ·rename_i cs n hf hg hn
  split at hc
  ·rename_i hl
   cases hc
   have hl:cs.length=n:=by simpa using hl
   simp only[za,zi,zd]at hs
   obtain⟨u,hu,rfl⟩:=ug hs
   cases hu
   obtain⟨nm,cR,hnm⟩:=qz8 hf
   have ht:=(m.tabs g (.inr (.inr ⟨_,cR,hnm⟩))).2.2.2 _ cR hnm
   have dB:∀j v,(cs.map (Value.int .i64))[j]?=I v→w.cell? ⟨g,0+j,E1⟩=I v:=by
    intro j v hj
    rw[S1,En]at hj
    obtain⟨i,hi,rfl⟩:=hj
    rw[Vk]
    exact ht j i hi
   have Fg:=EV (P:=P) (w:=w) hg hn (vs:=cs.map (Value.int .i64)) (by simpa using hl) dB
   refine yc m e ⟨.agg ⟨cs.map (Value.int .i64)⟩,?_,.agg _ _ ja5⟩
   have gB:a.eval (.global g)=.pointer (I ⟨g,0,E1⟩):=rfl
   simp[execOp,ho,Instr.loadAt,gB,Instr.sureAddr,Fg]
  ·cases hc
 ·cases hc
theorem jha (m:av P C ω w0 C0 hp w)(e:aj C ω w w0.heap.size env a.tmps){t:TypeId}{x:Operand}(ho:o.op=.load t x)(hc:cx P h md r dst (.load t x)=I cn)(hs:za p xc h0 al env hp cn=I res):dR P C C0 w0 a d env o w res:=by
 have key:∀ {ag:Bool} {n:Nat} {y:qh},fb P t=I ag→yg P t=I n→(ag=Gk→n=1)→zr x=I y→gT h0 al env hp (.load ag n y)=I res→dR P C C0 w0 a d env o w res:=by
  intro ag n y hg hn EX hy hs
  simp only[gT]at hs
  split at hs
  ·rename_i b q hv
   cases hk:yv h0 al b with
   |false=>simp[hk]at hs
   |true=>
    simp only[hk,cT]at hs
    split at hs
    ·rename_i cs hcs
     split at hs
     ·rename_i us gy
      cases ag with
      |true=>
       simp only[cT]at hs
       obtain rfl:=zx hs
       exact yc m e (Sr m e.bT ho hg hn EX hy hv (.inl ⟨b,q,cs,us,rfl,hcs,gy,.inl ⟨rfl,rfl⟩⟩))
      |false=>
       simp only[cond_false]at hs
       split at hs
       ·obtain rfl:=zx hs
        exact yc m e (Sr m e.bT ho hg hn EX hy hv (.inl ⟨b,q,cs,_,rfl,hcs,gy,.inr ⟨rfl,rfl⟩⟩))
       ·cases hs
     ·cases hs
    ·cases hs
  ·rename_i z hv
   cases hk:(Bool.xor ag z.isAgg||!(Mw z.flat.length n))with
   |true=>simp[hk]at hs
   |false=>
    simp only[hk,cond_false]at hs
    obtain rfl:=zx hs
    simp only[Bool.or_eq_false_iff,Bool.not_eq_false']at hk
    exact yc m e (Sr m e.bT ho hg hn EX hy hv (.inr ⟨rfl,hk.1,Gl hk.2⟩))
  ·rename_i b bu q hv
   cases hk:tR h0 al b with
   |false=>simp[hk]at hs
   |true=>
    simp only[hk,cT]at hs
    split at hs
    ·rename_i sz db xs fZ
     cases cV:(Mw bu db&&Nat.ble (q+n) (xs.flatMap qa.flat).length)with
     |false=>rw[cV]at hs;cases hs
     |true=>
      rw[cV]at hs
      simp only[cT]at hs
      simp only[Gn]at cV
      obtain rfl:=Gl cV.1
      have hl:=Td cV.2
      cases ag with
      |true=>
       simp only[cT]at hs
       obtain rfl:=zx hs
       exact yc m e (q0n m e.bT ho hg hn hy hv fZ hl (.inl ⟨rfl,rfl⟩))
      |false=>
       simp only[cond_false]at hs
       split at hs
       ·rename_i z hz
        obtain rfl:=zx hs
        exact yc m e (q0n m e.bT ho hg hn hy hv fZ hl (.inr ⟨rfl,hz⟩))
       ·cases hs
    ·cases hs
  ·cases hs
 by_cases hx:∃g,x=.global g
 ·obtain⟨g,rfl⟩:=hx
  exact jc9 m e ho hc hs
 have hc:(match fb P t,yg P t,zr x with
  |some Gk,I 1,I x=>if(dst.map (h.takes.contains ·)).getD Gk then I (qw.b6 ((dst.bind fun d=>h.bB.find? fun y=>y.1 == d).map (·.2)) x)else I (bif (dst.map (h.vl.contains ·)).getD Gk then .eN Gk 1 x else .load Gk 1 x)
  |some Gp,I n,I x=>I (bif (dst.map (h.vl.contains ·)).getD Gk then .eN Gp n x else .load Gp n x)
  |_,_,_=>E1)=I cn:=by
  cases x with
  |global g=>exact absurd ⟨g,rfl⟩ hx
  |_=>exact hc
 split at hc
 ·rename_i y hg hn hy
  split at hc
  ·cases hc
   simp only[za,zm]at hs
   split at hs
   ·rename_i b q hv
    generalize (yv h0 al b&&tS _ q)=kk at hs
    cases kk with
    |false=>simp at hs
    |true=>
     simp only[cT]at hs
     split at hs
     ·rename_i cs hcs
      split at hs
      ·rename_i v ow hq
       split at hs
       ·rename_i h' bm
        cases hs
        exact .inl (q3v m e ho hg hy hv hcs hq bm)
       ·cases hs
      ·cases hs
     ·cases hs
   ·cases hs
  ·cases hc
   generalize (dst.map (h.vl.contains ·)).getD Gk=bb at hs
   cases bb with
   |false=>exact key hg hn (fun _=>rfl) hy hs
   |true=>exact key hg hn (fun _=>rfl) hy (q7a hs)
 ·rename_i n y hg hn hy
  cases hc
  generalize (dst.map (h.vl.contains ·)).getD Gk=bb at hs
  cases bb with
  |false=>exact key hg hn (by simp) hy hs
  |true=>exact key hg hn (by simp) hy (q7a hs)
 ·cases hc
theorem jc1 (m:av P C ω w0 C0 hp w)(e:aj C ω w w0.heap.size env a.tmps){t:TypeId}{x y:Operand}(ho:o.op=.store t x y)(mF:cn.gH=E1)(hc:cx P h md r dst (.store t x y)=I cn)(hs:za p xc h0 al env hp cn=I res):dR P C C0 w0 a d env o w res:=by
 simp only[cx]at hc
 split at hc
 ·rename_i n x' y' hn h1 h2
  cases ll:L4 h x' with
  |some s=>rw[ll]at hc;simp only[I.injEq]at hc;subst hc;simp[qw.gH]at mF
  |none=>
  rw[ll]at hc
  simp only[I.injEq]at hc
  subst hc
  simp only[za,zm]at hs
  split at hs
  ·rename_i b q v e1 e2
   cases hk:yv h0 al b with
   |false=>simp[hk]at hs
   |true=>
    simp only[hk,cT]at hs
    split at hs
    ·rename_i cs hcs
     split at hs
     ·rename_i s cB
      cases hb:(Mw n 1&&v.cu&&Nat.blt q cs.length)with
      |false=>simp[hb]at hs
      |true=>
       simp only[hb,cT]at hs
       simp only[Gn]at hb
       obtain⟨⟨kH,lm⟩,Fh⟩:=hb
       obtain rfl:=Gl kH
       split at hs
       ·rename_i h' bm
        cases hs
        exact .inr (.inl (q3o m e ho hn h1 h2 e1 e2 hcs lm (V7.mp Fh) cB bm))
       ·cases hs
     ·cases hb:Mw v.flat.length n with
      |false=>simp[hb]at hs
      |true=>
       simp only[hb,cT]at hs
       split at hs
       ·rename_i dQ bS
        split at hs
        ·rename_i h' bm
         obtain rfl:=zx hs
         exact .inr (.inl (jbp m e ho hn h1 h2 e1 e2 hcs (Gl hb) bS bm))
        ·cases hs
       ·cases hs
    ·cases hs
  ·cases hs
 ·cases hc
theorem jb7 {P:Program}{t:TypeId}{e:TypeId}(h:RU P t=I e):∃sz,ef P t=I [.bN,.list Gp sz []]:=by
 unfold RU at h
 split at h
 ·split at h
  ·split at h
   ·split at h
    ·rename_i sz h1 h2
     exact⟨_,h2⟩
    ·cases h
   ·cases h
  ·cases h
 ·cases h
theorem ja7 (m:av P C ω w0 C0 hp w)(e:aj C ω w w0.heap.size env a.tmps){t:TypeId}(ho:o.op=.alloc t)(hc:cx P h md r dst (.alloc t)=I cn)(hs:za p xc h0 al env hp cn=I res):dR P C C0 w0 a d env o w res:=by
 simp only[cx]at hc
 split at hc
 ·rename_i e' he
  cases hc
  obtain⟨sz,hz⟩:=jb7 he
  simp only[za,zm]at hs
  split at hs
  ·rename_i h' hn
   obtain rfl:=zx hs
   exact .inl (jly m e ho hz hn)
  ·cases hs
 generalize (dst.map (h.vl.contains ·)).getD Gk=bb at hc
 cases bb with
 |true=>
  simp only[cT]at hc
  split at hc
  ·rename_i z hz
   cases hb:z.all ze with
   |false=>rw[hb]at hc;cases hc
   |true=>
    rw[hb]at hc
    simp only[cT,I.injEq]at hc
    subst hc
    simp only[za,zi,I.injEq]at hs
    subst hs
    exact .inl (jas m e ho hz)
  ·cases hc
 |false=>
 simp only[cond_false]at hc
 obtain⟨z,hz,rfl⟩:=En.1 hc
 simp only[za,zm]at hs
 cases hb:z.all ze with
 |false=>simp[hb]at hs
 |true=>
  simp only[hb,cT]at hs
  split at hs
  ·rename_i h' hn
   obtain rfl:=zx hs
   exact .inl (jc4 m e ho hz (by simpa using hb) hn)
  ·cases hs
theorem jk3 (m:av P C ω w0 C0 hp w)(e:aj C ω w w0.heap.size env a.tmps){t:TypeId}{x:Operand}(ho:o.op=.box t x)(hc:cx P h md r dst (.box t x)=I cn)(hs:za p xc h0 al env hp cn=I res):dR P C C0 w0 a d env o w res:=by
 simp only[cx]at hc
 split at hc
 ·rename_i n x' hn h1
  cases hc
  generalize (dst.map (h.vl.contains ·)).getD Gk=bb at hs
  cases bb with
  |true=>
   simp only[cT,za,zi]at hs
   split at hs
   ·rename_i v hv
    cases hb:(Mw v.flat.length n&&v.flat.all ze)with
    |false=>simp[hb]at hs
    |true=>
     simp only[hb,cT]at hs
     simp only[Gn]at hb
     obtain rfl:=zx hs
     exact .inl (jfq m e ho h1 hv hb.2)
   ·cases hs
  |false=>
   simp only[cond_false]at hs
   simp only[za,zm]at hs
   split at hs
   ·rename_i v hv
    cases hb:(Mw v.flat.length n&&v.flat.all ze)with
    |false=>simp[hb]at hs
    |true=>
     simp only[hb,cT]at hs
     simp only[Gn]at hb
     split at hs
     ·rename_i h' jP
      obtain rfl:=zx hs
      exact .inl (jlh m e ho h1 hv hb.2 jP)
     ·cases hs
   ·cases hs
 ·cases hc
theorem q5e (m:av P C ω w0 C0 hp w)(e:aj C ω w w0.heap.size env a.tmps){i:Nat}{x:Operand}(ho:o.op=.extract x i)(hc:cx P h md r dst (.extract x i)=I cn)(hs:za p xc h0 al env hp cn=I res):dR P C C0 w0 a d env o w res:=by
 simp only[cx]at hc
 obtain⟨y,hy,rfl⟩:=En.1 hc
 simp only[za,zi]at hs
 split at hs
 ·rename_i vs hv
  obtain⟨u,hu,rfl⟩:=ug hs
  exact yc m e (q5q e.bT ho hy hv hu)
 ·cases hs
theorem q44 (m:av P C ω w0 C0 hp w)(e:aj C ω w w0.heap.size env a.tmps){f:Fn}{xs ys:Array Operand}(ho:o.op=.makeFunc f xs ys)(hc:cx P h md r dst (.makeFunc f xs ys)=I cn)(hs:za p xc h0 al env hp cn=I res):dR P C C0 w0 a d env o w res:=by
 simp only[cx]at hc
 split at hc
 ·split at hc
  ·rename_i k fq nx h1 h2
   cases hc
   simp only[za,zi]at hs
   split at hs
   ·rename_i us vs e1 e2
    obtain rfl:=zx hs
    exact yc m e (q8x e.bT ho h1 h2 e1 e2)
   ·cases hs
  ·cases hc
 ·cases hc
theorem q6c (m:av P C ω w0 C0 hp w)(e:aj C ω w w0.heap.size env a.tmps){t:TypeId}{x:Option Operand}(ho:o.op=.makeMap t x)(hc:cx P h md r dst (.makeMap t x)=I cn)(hs:za p xc h0 al env hp cn=I res):dR P C C0 w0 a d env o w res:=by
 cases x with
 |some x=>simp[cx]at hc
 |none=>
  simp only[cx]at hc
  split at hc
  ·cases hc
   simp only[za,zm]at hs
   split at hs
   ·rename_i h' hn
    obtain rfl:=zx hs
    exact .inl (jcy m e ho hn)
   ·cases hs
  ·cases hc
theorem jbs (m:av P C ω w0 C0 hp w)(e:aj C ω w w0.heap.size env a.tmps){t:TypeId}{x:Operand}(ho:o.op=.range t x)(hc:cx P h md r dst (.range t x)=I cn)(hs:za p xc h0 al env hp cn=I res):dR P C C0 w0 a d env o w res:=by
 simp only[cx]at hc
 split at hc
 ·rename_i ht
  obtain⟨y,hy,rfl⟩:=En.1 hc
  simp only[za,zm]at hs
  split at hs
  ·rename_i s hv
   split at hs
   ·rename_i h' hn
    obtain rfl:=zx hs
    exact .inl (q7k m e ho ht hy hv hn)
   ·cases hs
  ·cases hs
 ·cases hc
theorem jiq (m:av P C ω w0 C0 hp w)(e:aj C ω w w0.heap.size env a.tmps){x:Operand}{b:Bool}(ho:o.op=.next x b)(hc:cx P h md r dst (.next x b)=I cn)(hs:za p xc h0 al env hp cn=I res):dR P C C0 w0 a d env o w res:=by
 cases b with
 |false=>simp[cx]at hc
 |true=>
  simp only[cx]at hc
  obtain⟨y,hy,rfl⟩:=En.1 hc
  simp only[za,zm]at hs
  split at hs
  ·rename_i b hv
   cases hk:yv h0 al b with
   |false=>simp[hk]at hs
   |true=>
    simp only[hk,cT]at hs
    split at hs
    ·rename_i s pos hb
     obtain⟨k1,k2⟩:=jdh (d:=d) m e ho hy hv hb
     cases hp:Nat.blt pos s.length with
     |true=>
      simp only[hp,cT]at hs
      split at hs
      ·rename_i h' bm
       obtain rfl:=zx hs
       exact .inl (k1 (V7.mp hp) h' bm)
      ·cases hs
     |false=>
      simp only[hp,cond_false]at hs
      obtain rfl:=zx hs
      exact .inl (k2 (fun h=>by rw[V7.mpr h]at hp;cases hp))
    ·cases hs
  ·cases hs
theorem q9a (m:av P C ω w0 C0 hp w)(e:aj C ω w w0.heap.size env a.tmps){t:TypeId}{x y:Operand}{ok:Bool}(ho:o.op=.lookup t x y ok)(hc:cx P h md r dst (.lookup t x y ok)=I cn)(hs:za p xc h0 al env hp cn=I res):dR P C C0 w0 a d env o w res:=by
 simp only[cx]at hc
 split at hc
 ·rename_i kt el ht
  split at hc
  ·rename_i kd z x' y' gY hz h1 h2
   cases hc
   simp only[za,gT]at hs
   split at hs
   ·rename_i b kv e1 e2
    cases hk:yv h0 al b with
    |false=>simp[hk]at hs
    |true=>
     simp only[hk,cT]at hs
     split at hs
     ·rename_i es hb
      split at hs
      ·rename_i i v hf
       obtain rfl:=zx hs
       exact yc m e (SN m e ho ht gY hz h1 h2 e1 e2 (.inr ⟨b,es,rfl,hb,hf⟩))
      ·rename_i hf
       obtain rfl:=zx hs
       exact yc m e (SN m e ho ht gY hz h1 h2 e1 e2 (.inr ⟨b,es,rfl,hb,hf⟩))
      ·cases hs
     ·cases hs
   ·rename_i kv e1 e2
    obtain rfl:=zx hs
    exact yc m e (SN m e ho ht gY hz h1 h2 e1 e2 (.inl ⟨rfl,rfl⟩))
   ·cases hs
  ·cases hc
 ·cases hc
theorem qpy (m:av P C ω w0 C0 hp w)(e:aj C ω w w0.heap.size env a.tmps){t:TypeId}{x y z:Operand}(ho:o.op=.mapUpdate t x y z∨o.op=.insert t x y z)(hc:cx P h md r dst (.mapUpdate t x y z)=I cn)(hs:za p xc h0 al env hp cn=I res):dR P C C0 w0 a d env o w res:=by
 simp only[cx]at hc
 split at hc
 ·rename_i kt el ht
  split at hc
  ·rename_i kd x' y' z' gY h1 h2 h3
   cases hc
   simp only[za,zm]at hs
   split at hs
   ·rename_i b kv v e1 e2 e3
    cases hk:yv h0 al b with
    |false=>simp[hk]at hs
    |true=>
     simp only[hk,cT]at hs
     split at hs
     ·rename_i es hb
      split at hs
      ·rename_i i u hf
       split at hs
       ·rename_i h' bm
        obtain rfl:=zx hs
        exact .inr (.inl (qpt m e ho ht gY h1 h2 h3 e1 e2 e3 hb (.inl ⟨i,u,hf,bm⟩)))
       ·cases hs
      ·rename_i hf
       cases hl:Nat.ble es.length 1073741824 with
       |false=>simp[hl]at hs
       |true=>
        simp only[hl,cT]at hs
        split at hs
        ·rename_i h' bm
         obtain rfl:=zx hs
         exact .inr (.inl (qpt m e ho ht gY h1 h2 h3 e1 e2 e3 hb (.inr ⟨hf,bm⟩)))
        ·cases hs
      ·cases hs
     ·cases hs
   ·cases hs
  ·cases hc
 ·cases hc
end
section
variable {P:Program}{p:qt}{xc:XC}{C C0:ay}{ω:Nat→Option Loc}{w w0:World}{hp:j8}{env:Env}{a:Act}{o:Oper}{d:Loc}{h:qb}{md:jd}{r h0:Nat}{dst:Option Nat}{al:Option (List Nat)}{cn:qw}{res:qq}
theorem uh (w:World){d:Nat}{t:TypeId}{x y:Value}{b:Bool}{u:TypeDesc}(h:(∃e,u=.slice e∧y=.slice E1 0 0∧∃q l c,x=.slice q l c∧b=q.isNone)∨(∃e,u=.pointer e∧y=.pointer E1∧∃q,x=.pointer q∧b=q.isNone) ∨
  (∃k e,u=.map k e∧y=.map E1∧∃q,x=.map q∧b=q.isNone)∨(∃k e v,u=.func k e v∧y=.nilFunc∧((x=.nilFunc∧b=Gp)∨∃f i j,x=.func f i j∧b=Gk))) (ht:P.underlying t=I u):
  (Op.equalIn (d+1) t x y).run P w=.ok b w:=by
 rcases h with⟨e,rfl,rfl,q,l,c,rfl,rfl⟩|⟨e,rfl,rfl,q,rfl,rfl⟩|⟨k,e,rfl,rfl,q,rfl,rfl⟩|⟨k,e,v,rfl,rfl,⟨rfl,rfl⟩|⟨f,i,j,rfl,rfl⟩⟩
 ·cases q<;>simp[Op.equalIn,run_underlying ht]
 ·cases q<;>simp[Op.equalIn,run_underlying ht]
 ·cases q<;>simp[Op.equalIn,run_underlying ht]
 ·simp[Op.equalIn,run_underlying ht]
 ·simp[Op.equalIn,run_underlying ht]
theorem ui (m:av P C ω w0 C0 hp w)(e:aj C ω w w0.heap.size env a.tmps){op:BinOp}{t u:TypeId}{x y:Operand}{neq b:Bool}{c:Value}(ho:o.op=.binOp op t x y u)(hop:op=if neq then .neq else .eql)(hy:a.eval y=c)
  (bw:(∀k n,a.eval x≠.int k n)∧(∀s,a.eval x≠.string s)∧(∀k n,a.eval x≠.float k n)∧(∀k n m,a.eval x≠.complex k n m)) (cK:∀cs,a.eval x≠.agg cs) (Sg:a.eval x≠.nilIface)
  (hq:(Op.equal t (a.eval x) c).run P w=.ok b w) {z:Bool} (hz:z=bif neq then !b else b):dR P C C0 w0 a d env o w ⟨.bool z,Gk,E1,hp⟩:=by
 subst hz
 exact yc m e (jbr ho hop hy bw cK Sg hq)
theorem Mt (m:av P C ω w0 C0 hp w)(e:aj C ω w w0.heap.size env a.tmps){op:BinOp}{t u:TypeId}{x y:Operand}{y':qh}{neq:Bool}{k:Nat}{c:Value}(ho:o.op=.binOp op t x y u)(hop:op=if neq then .neq else .eql)(hx:zr x=I y')(hy:y=.const c)
  (hk:(k=0∧(∃el,P.underlying t=I (.slice el))∧c=.slice E1 0 0)∨(k=1∧(∃el,P.underlying t=I (.pointer el))∧c=.pointer E1)∨(k=2∧(∃k v,P.underlying t=I (.map k v))∧c=.map E1)∨(k=3∧(∃a b c,P.underlying t=I (.func a b c))∧c=.nilFunc))
  (hs:za p xc h0 al env hp (.eO k neq y')=I res):dR P C C0 w0 a d env o w res:=by
 have oO:a.eval y=c:=by subst hy;simp[Act.eval]
 rcases hk with⟨rfl,⟨el,ht⟩,rfl⟩|⟨rfl,⟨el,ht⟩,rfl⟩|⟨rfl,⟨k,el,ht⟩,rfl⟩|⟨rfl,⟨k,el,q,ht⟩,rfl⟩
 ·simp only[za,zi]at hs
  split at hs<;>first|(exfalso;omega)|skip
  ·rename_i n sz xs _ hv
   obtain rfl:=zx hs
   rcases(zu e.bT hx hv).cG with⟨rfl,rfl,h1⟩|⟨h1,r,q,cap,h2,_⟩|⟨h1,_,ad,_,h2⟩
   ·exact ui m e ho hop oO (by simp[h1]) (by simp[h1]) (by simp[h1]) (b:=true) (by rw[h1];exact uh w (d:=9999) (by simp) ht) (by cases neq<;>rfl)
   all_goals
    subst h1
    exact ui m e ho hop oO (by simp[h2]) (by simp[h2]) (by simp[h2]) (b:=false) (by rw[h2];exact uh w (d:=9999) (by simp) ht) (by cases neq<;>rfl)
  ·rename_i b q n _ hv
   obtain rfl:=zx hs
   have hr:=zu e.bT hx hv
   generalize h2:a.eval x=ev at hr
   cases hr with
   |ms b o len r cap hb hl=>
    exact ui m e ho hop oO (by simp[h2]) (by simp[h2]) (by simp[h2]) (b:=false) (by rw[h2];exact uh w (d:=9999) (by simp) ht) (by cases neq<;>rfl)
  ·cases hs
 ·simp only[za,zi]at hs
  split at hs<;>first|(exfalso;omega)|skip
  ·rename_i _ hv
   obtain rfl:=zx hs
   have hr:=zu e.bT hx hv
   generalize h2:a.eval x=ev at hr
   cases hr
   exact ui m e ho hop oO (by simp[h2]) (by simp[h2]) (by simp[h2]) (b:=true) (by rw[h2];exact uh w (d:=9999) (by simp) ht) (by cases neq<;>rfl)
  ·rename_i _ hv
   obtain rfl:=zx hs
   obtain⟨r,hr,h2⟩:=(zu e.bT hx hv).cU
   exact ui m e ho hop oO (by simp[h2]) (by simp[h2]) (by simp[h2]) (b:=false) (by rw[h2];exact uh w (d:=9999) (by simp) ht) (by cases neq<;>rfl)
  ·rename_i _ hv
   obtain rfl:=zx hs
   obtain⟨r,q,h2,_⟩:=(zu e.bT hx hv).en
   exact ui m e ho hop oO (by simp[h2]) (by simp[h2]) (by simp[h2]) (b:=false) (by rw[h2];exact uh w (d:=9999) (by simp) ht) (by cases neq<;>rfl)
  ·cases hs
 ·simp only[za,zi]at hs
  split at hs<;>first|(exfalso;omega)|skip
  ·rename_i _ hv
   obtain rfl:=zx hs
   have hr:=zu e.bT hx hv
   generalize h2:a.eval x=ev at hr
   cases hr
   exact ui m e ho hop oO (by simp[h2]) (by simp[h2]) (by simp[h2]) (b:=true) (by rw[h2];exact uh w (d:=9999) (by simp) ht) (by cases neq<;>rfl)
  ·rename_i _ hv
   obtain rfl:=zx hs
   have hr:=zu e.bT hx hv
   generalize h2:a.eval x=ev at hr
   cases hr
   exact ui m e ho hop oO (by simp[h2]) (by simp[h2]) (by simp[h2]) (b:=false) (by rw[h2];exact uh w (d:=9999) (by simp) ht) (by cases neq<;>rfl)
  ·cases hs
 ·simp only[za,zi]at hs
  split at hs<;>first|(exfalso;omega)|skip
  ·rename_i _ hv
   obtain rfl:=zx hs
   have hr:=zu e.bT hx hv
   generalize h2:a.eval x=ev at hr
   cases hr
   exact ui m e ho hop oO (by simp[h2]) (by simp[h2]) (by simp[h2]) (b:=true) (by rw[h2];exact uh w (d:=9999) (by simp) ht) (by cases neq<;>rfl)
  ·rename_i _ hv
   obtain rfl:=zx hs
   have hr:=zu e.bT hx hv
   generalize h2:a.eval x=ev at hr
   cases hr
   exact ui m e ho hop oO (by simp[h2]) (by simp[h2]) (by simp[h2]) (b:=false) (by rw[h2];exact uh w (d:=9999) (by simp) ht) (by cases neq<;>rfl)
  ·cases hs
theorem SR (m:av P C ω w0 C0 hp w)(e:aj C ω w w0.heap.size env a.tmps){op:BinOp}{t u:TypeId}{x y:Operand}{x' y':qh}(ho:o.op=.binOp op t x y u)(h1:zr x=I x')(h2:zr y=I y')(hs:za p xc h0 al env hp (.bin op x' y')=I res):dR P C C0 w0 a d env o w res:=by
 simp only[za,zi]at hs
 split at hs
 ·rename_i u v e1 e2
  obtain⟨z,hz,rfl⟩:=ug hs
  exact yc m e (jm3 e.bT ho h1 h2 e1 e2 hz)
 ·cases hs
theorem qw0 (m:av P C ω w0 C0 hp w)(e:aj C ω w w0.heap.size env a.tmps){op:BinOp}{t u:TypeId}{x y:Operand}{neq:Bool}(ho:o.op=.binOp op t x y u)(hop:op=if neq then .neq else .eql)(hc:CX P op neq t x y=I cn)(hs:za p xc h0 al env hp cn=I res):dR P C C0 w0 a d env o w res:=by
 have dy:CX P op neq t x y=I cn:=hc
 unfold CX at dy
 have eqs:∀ {ks:List Kd} {x' y':qh},fb P t=I Gp→P.eqGuardType P.depth t=Gk→tU P L2 t=I ks→zr x=I x'→zr y=I y'→za p xc h0 al env hp (.eqs ks neq x' y')=I res→dR P C C0 w0 a d env o w res:=by
  intro ks x' y' cK hg hk h1 h2 hs
  simp only[za,zi]at hs
  split at hs
  ·rename_i u v e1 e2
   cases hb:(Mw u.length ks.length&&Mw v.length ks.length)with
   |false=>simp[hb]at hs
   |true=>
    simp only[hb,cT]at hs
    simp only[Gn]at hb
    split at hs
    ·rename_i b hq
     obtain rfl:=zx hs
     exact yc m e (jle e.bT ho hop h1 h2 e1 e2 hg hk cK (Gl hb.1) (Gl hb.2) hq)
    ·cases hs
  ·cases hs
 split at dy
 ·split at dy
  ·rename_i h1 h2;cases dy;exact SR m e ho h1 h2 hs
  ·cases dy
 ·split at dy
  ·rename_i h1 h2;cases dy;exact SR m e ho h1 h2 hs
  ·cases dy
 ·rename_i ht
  split at dy
  ·rename_i h1 h2
   cases dy
   simp only[za,zi]at hs
   split at hs
   ·rename_i u v e1 e2
    obtain rfl:=zx hs
    exact yc m e (jkt e.bT ho hop h1 h2 e1 e2 ht)
   ·cases hs
  ·cases dy
 ·rename_i fs ht
  split at dy
  ·rename_i hg
   split at dy
   ·rename_i ks x' y' hk h1 h2;cases dy;exact eqs (by simp[fb,ht]) (by simpa using hg) hk h1 h2 hs
   ·cases dy
  ·cases dy
 ·rename_i fs _ ht
  split at dy
  ·rename_i hg
   split at dy
   ·rename_i ks x' y' hk h1 h2;cases dy;exact eqs (by simp[fb,ht]) (by simpa using hg) hk h1 h2 hs
   ·cases dy
  ·cases dy
 ·rename_i el ht
  split at dy
  ·obtain⟨x',hx,rfl⟩:=En.1 dy
   exact Mt m e ho hop hx rfl (.inl ⟨rfl,⟨el,ht⟩,rfl⟩) hs
  ·cases dy
 ·rename_i el ht
  split at dy
  ·obtain⟨x',hx,rfl⟩:=En.1 dy
   exact Mt m e ho hop hx rfl (.inr (.inl ⟨rfl,⟨el,ht⟩,rfl⟩)) hs
  ·cases dy
 ·rename_i el _ ht
  split at dy
  ·obtain⟨x',hx,rfl⟩:=En.1 dy
   exact Mt m e ho hop hx rfl (.inr (.inr (.inl ⟨rfl,⟨_,_,ht⟩,rfl⟩))) hs
  ·cases dy
 ·rename_i el _ _ ht
  split at dy
  ·obtain⟨x',hx,rfl⟩:=En.1 dy
   exact Mt m e ho hop hx rfl (.inr (.inr (.inr ⟨rfl,⟨_,_,_,ht⟩,rfl⟩))) hs
  ·cases dy
 ·cases dy
theorem jms (m:av P C ω w0 C0 hp w)(e:aj C ω w w0.heap.size env a.tmps){op:BinOp}{t u:TypeId}{x y:Operand}(ho:o.op=.binOp op t x y u)(hc:cx P h md r dst (.binOp op t x y u)=I cn)(hs:za p xc h0 al env hp cn=I res):dR P C C0 w0 a d env o w res:=by
 simp only[cx]at hc
 unfold RW at hc
 split at hc
 ·exact qw0 (neq:=false) m e ho rfl hc hs
 ·exact qw0 (neq:=true) m e ho rfl hc hs
 ·split at hc
  ·rename_i h1 h2;cases hc;exact SR m e ho h1 h2 hs
  ·cases hc
end
end Go.Abs
