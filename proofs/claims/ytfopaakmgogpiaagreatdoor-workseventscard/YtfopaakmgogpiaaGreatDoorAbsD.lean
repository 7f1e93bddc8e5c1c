/- Slices that are written later. -/
import Derived.Test.YtfopaakmgogpiaaGreatDoorAbsC
import Derived.Scope
set_option linter.unusedVariables false
set_option linter.unusedSimpArgs false
namespace Go.Abs
section
variable {P:Program}{C C0:Ctx}{ω:Nat→Option Loc}{w w' w0:World}{hp:j8}{env:Env}{a:Act}{o:Oper}{tmps:Array Value}{d:Loc}
theorem qzh (m:MInv P C ω w0 C0 hp w)(e:EnvRel C ω w w0.heap.size env a.tmps){t el:TypeId}{x y:Operand}{x' y':qh}{n sz b h0 rk:Nat}{z:List qa}{h':j8}
  (ho:o.op=.makeSlice t x y) (ht:P.underlying t=some (.slice el)) (hn:yh P el=some sz) (hb:qds P el=some b) (hz:qan P el=some z) (h00:0<sz) (hzl:z.length=sz)
  (h1:zq x=some x') (h2:zq y=some y') (e1:zc env x'=some (.int .i64 (n:Int))) (e2:zc env y'=some (.int .i64 (n:Int))) (hle:n≤1073741824) (hbl:b≤4096)
  (hnew:newBox h0 hp rk (.cells (cellsOf (List.replicate n z).flatten))=some h'):
  ∃v w',(execOp a.eval o).run P w=.ok (.value v) w'∧kg P C0 w0 C a.tmps d env ⟨.ms (h0+rk) 0 n,false,none,h'⟩ v w':=by
 obtain⟨hh,rfl⟩:=qaq hnew
 obtain⟨hzs,zv,hzr,hzrep,hz1⟩:=qbq (C:=C) hz
 have hzsz:zv.cells.toList.length=sz:=by rw[hzrep.length,hzl]
 have hinit:((Array.range (n*sz)).map (fun i=>zv.cells[i % zv.cells.size]!)).toList=(List.replicate n zv.cells.toList).flatten:=by
  have:=qfe hzsz h00 n
  simpa using this
 have r1:=(zt e.rep h1 e1).int_inv
 have r2:=(zt e.rep h2 e2).int_inv
 have hrep:RepL C (List.replicate n z).flatten ((Array.range (n*sz)).map (fun i=>zv.cells[i % zv.cells.size]!)).toList:=by
  rw[hinit];exact hzrep.replicate n
 obtain⟨i,hi,hib⟩:∃i,P.info? el=some i∧i.bytes=b:=by
  unfold qds at hb
  cases hi:P.info? el with
  |none=>simp[hi]at hb
  |some i=>exact⟨i,rfl,by simpa[hi]using hb⟩
 have hsi:i.size=sz:=by
  unfold yh at hn
  rw[hi]at hn
  simpa using hn
 have hwrap:IntKind.i64.wrap (n:Int)=n:=by
  rw[←qgy];unfold j6
  have:qfi .i64 (n:Int)=true:=by simp[qfi];exact Nat.le_trans hle (by decide)
  rw[this];rfl
 have hbn:b*n≤281474976710656:=Nat.le_trans (Nat.mul_le_mul hbl hle) (by decide)
 obtain⟨m',e',hle'⟩:=m.newBox e hh (.cells ((Array.range (n*sz)).map (fun i=>zv.cells[i % zv.cells.size]!)) el) (fun c t fr h=>by cases h;rfl) (.cells (cellsOf (List.replicate n z).flatten))
  (qox hrep (by
   intro x h
   rw[List.mem_flatten]at h
   obtain⟨l,q1,q2⟩:=h
   obtain⟨_,rfl⟩:=List.mem_replicate.1 q1
   exact hzs x q2) (by intro j v h;rw[Array.getElem?_toList]at h;exact h) (by have:=hrep.length;simp at this;simp;omega))
 refine⟨.slice (some ⟨w.heap.size,0,none⟩) n n,w.alloc (.cells ((Array.range (n*sz)).map (fun i=>zv.cells[i % zv.cells.size]!)) el),?_,_,_,hle',m',e',.ms _ _ _ _ _ (by simp[Ctx.box]) (Nat.le_refl _),by simp⟩
 have c1:¬((b:Int)*(n:Int) > 2^48):=by
  have h1:((b*n:Nat):Int)≤281474976710656:=Int.ofNat_le.2 hbn
  rw[Int.natCast_mul]at h1
  have h2:(2:Int)^48=281474976710656:=by decide
  rw[h2];omega
 have c2:¬((n:Int)<0):=by omega
 have hr:Array.range 0=#[]:=rfl
 simp only[execOp,ho,Instr.makeSlice,Sem.run_bind,run_underlying ht,r1,r2,asInt,asIntOf,Sem.run_pure,Result.andThen_ok,typeInfo,run_program,hi,hib,hwrap,c2,c1,decide_false,Bool.or_false,Bool.false_eq_true,if_false,Int.lt_irrefl,gt_iff_lt,run_askRoom,Int.toNat_natCast,qah hn,newRow]
 by_cases hn0:n=0
 ·subst hn0
  simp[hr]
 ·have hne:¬(n*sz=0):=by
   intro h
   rcases Nat.mul_eq_zero.1 h with h|h<;>omega
  simp[hne,hzr]
theorem j2m (m:MInv P C ω w0 C0 hp w)(e:EnvRel C ω w w0.heap.size env tmps){b r s:Nat}{cells:Array Value}{t:TypeId}{us:List qa}{news:List Value}(hh:hp[b]?=some .hole)(hω:ω r=some (.slot s))(hB:w0.heap.size≤r∨C.W r)(hβ:∀b,C.β b≠some r)
  (hg:w.heap[r]?=some (.cells cells t (0,0))) (hK:∀o,C.K r o=none) (hfit:news.length≤cells.size) (hus:RepL C us news) (hone:∀v∈news,v.oneCell'=true):
  MInv P (C.box b r) ω w0 C0 (hp.set b (.cells (cellsOf us))) (w.setRow r (cells.toList.take 0++news++cells.toList.drop (0+news.length)).toArray) ∧
  EnvRel (C.box b r) ω (w.setRow r (cells.toList.take 0++news++cells.toList.drop (0+news.length)).toArray) w0.heap.size (k9 env (some s)) tmps∧C.le (C.box b r):=by
 have hu:=qe4 hg (cells.toList.take 0++news++cells.toList.drop (0+news.length)).toArray
 have hgat:=setRow_heap w r cells (cells.toList.take 0++news++cells.toList.drop (0+news.length)).toArray t (0,0) hg
 generalize w.setRow r (cells.toList.take 0++news++cells.toList.drop (0+news.length)).toArray=w' at hu hgat
 have hβb:=qi7 m hh
 have hle:=Ctx.box_le (C:=C) (r:=r) hβb
 have hlt:b<hp.length:=(List.getElem?_eq_some_iff.1 hh).1
 have hrlt:r<w.heap.size:=(Array.getElem?_eq_some_iff.1 hg).1
 have hown:∀ℓ x v,ℓ≠.slot s→OwnV C ω w w0.heap.size ℓ x v→OwnV (C.box b r) ω w' w0.heap.size ℓ x v:=by
  intro ℓ x v hℓ ho
  have hne:ω r≠some ℓ:=by rw[hω];intro h;exact hℓ (Option.some.inj h).symm
  exact(ho.box (.inr hne)).upd hu hne
 refine⟨?_,?_,hle⟩
 ·refine { base:=m.base,know:=?_,kone:=m.kone,apart:=?_,inj:=?_,lt:=?_,size:=?_,frame:=?_,dfr:=?_,os:=hu.os.trans m.os,output:=hu.output.trans m.output,fresh:=?_,grown:=Ctx.le_trans m.grown hle,old:=m.old,box:=?_,tlt:=fun q hq=>by rw[hu.size];exact m.tlt q hq }
  ·intro k q v hk
   have hkr:k≠r:=fun h=>by
    have hk':C.K k q=some v:=hk
    rw[h,hK q]at hk';cases hk'
   have hc:=m.know _ _ _ hk
   simp only[World.cell?]at hc ⊢
   rw[hu.other k hkr];exact hc
  ·intro k q p hk
   simp only[Ctx.box]at hk
   split at hk
   ·cases hk;exact hK p
   ·exact m.apart k q p hk
  ·intro k k' q hk hk'
   simp only[Ctx.box]at hk hk'
   split at hk<;>split at hk'
   ·rename_i h1 h2;rw[h1,h2]
   ·cases hk;exact absurd hk' (hβ k')
   ·cases hk';exact absurd hk (hβ k)
   ·exact m.inj k k' q hk hk'
  ·intro k q hk
   rw[List.length_set,hu.size]
   simp only[Ctx.box]at hk
   split at hk
   ·rename_i h1;cases hk;subst h1;exact⟨hrlt,hlt⟩
   ·exact m.lt k q hk
  ·rw[hu.size];exact m.size
  ·intro k hk hn hw
   have hkr:k≠r:=fun h=>by
    subst h
    rcases hB with h|h
    ·omega
    ·rw[m.grown.w]at h;exact hw h
   rw[hu.other k hkr];exact m.frame k hk hn hw
  ·intro k hk
   have hkr:k≠r:=fun h=>by
    subst h
    have:=m.dfr k hk
    rw[hg]at this;cases this
   rw[hu.other k hkr];exact m.dfr k hk
  ·intro k q hk
   simp only[Ctx.box]at hk
   split at hk
   ·cases hk
    rcases hB with h|h
    ·exact .inr (.inl h)
    ·rw[m.grown.w]at h;exact .inr (.inr h)
   ·exact m.fresh k q hk
  ·intro k x q hx hk
   simp only[Ctx.box]at hk
   split at hk
   ·rename_i h1
    subst h1
    cases hk
    rw[List.getElem?_set_self hlt]at hx
    cases hx
    have hnl:=hus.length
    refine⟨_,t,hgat,by simp[cellsOf];omega,?_⟩
    intro j c hc
    simp only[cellsOf,List.getElem?_map,Option.map_eq_some_iff]at hc
    obtain⟨x,hx,rfl⟩:=hc
    obtain⟨v,h1,h2⟩:=hus.get hx
    have hj:j<news.length:=(List.getElem?_eq_some_iff.1 h1).1
    refine⟨v,?_,hone v (List.mem_of_getElem? h1),qp.mono hle h2,by simp⟩
    simp only[List.take_zero,List.nil_append,List.getElem?_toArray]
    rw[List.getElem?_append_left hj];exact h1
   ·rename_i h1
    rw[List.getElem?_set_ne (Ne.symm h1)]at hx
    have hne:q≠r:=fun h=>hβ k (h▸hk)
    have hb1:BoxRel P C ω w' w0.heap.size k q x:=(m.box k x q hx hk).upd hu hne (fun j=>by rw[hω];simp)
    exact hb1.mono hle fun j y v ho=>ho.box (.inr (by rw[hω];simp))
 ·intro t' x hx
  by_cases hts:t'=s
  ·subst hts
   simp only[k9]at hx
   cases hl:ye t' env with
   |none=>rw[hl]at hx;simp only[hl]at hx;cases hx
   |some y=>
    rw[hl]at hx
    simp only[ye,Nat.beq_refl,cT]at hx
    cases hx
    obtain⟨v,h2,h3,_⟩:=e t' y hl
    exact⟨v,h2,qp.mono hle h3,by simp⟩
  ·have hx':ye t' env=some x:=by
    simp only[k9]at hx
    cases hl:ye s env with
    |none=>rw[hl]at hx;exact hx
    |some y=>
     rw[hl]at hx
     simp only[ye]at hx
     have:Nat.beq s t'=false:=by
      cases hb:Nat.beq s t' with
      |false=>rfl
      |true=>exact absurd (Nat.eq_of_beq_eq_true hb).symm hts
     rw[this]at hx
     exact hx
   obtain⟨v,h2,h3,h4⟩:=e t' x hx'
   exact⟨v,h2,qp.mono hle h3,fun h=>hown _ _ _ (by simp[hts]) (h4 h)⟩
theorem q42 {xs:List qa}{vs:List Value}{t:TypeId}{B b r:Nat}{cells:Array Value}(hr:RepL C xs vs)(hone:∀v∈vs,v.oneCell'=true)(hv:∀(j:Nat) v,vs[j]?=some v→cells[j]?=some v)(hl:xs.length≤cells.size):
  ∀C' ω' w',C.le C'→w'.heap[r]?=some (.cells cells t (0,0))→BoxRel P C' ω' w' B b r (.cells (cellsOf xs)):=by
 intro C' ω' w' hle hg
 refine⟨cells,t,hg,by simpa[cellsOf]using hl,?_⟩
 intro j c hc
 simp only[cellsOf,List.getElem?_map,Option.map_eq_some_iff]at hc
 obtain⟨x,hx,rfl⟩:=hc
 obtain⟨v,h1,h2⟩:=hr.get hx
 exact⟨v,hv j v h1,hone v (List.mem_of_getElem? h1),qp.mono hle h2,by simp⟩
theorem q0r (m:MInv P C ω w0 C0 hp w)(e:EnvRel C ω w w0.heap.size env a.tmps){c:Call}{t u el:TypeId}{ut:TypeDesc}{x y:Operand}{x' y':qh}{sz b h0 rk:Nat}{n:Bool}{sz':Nat}{ys:List qa}{vy:qa}{h':j8}
  (ho:o.op=.call c) (hcb:c.callee=.builtin .append) (hca:c.args.toList=[x,y]) (hct:c.argTypes.toList=[t,u]) (ht:P.underlying t=some (.slice el)) (hu:P.underlying u=some ut) (hut:qey ut=true)
  (hn:yh P el=some sz) (hb:qds P el=some b) (h1:zq x=some x') (h2:zq y=some y') (e1:zc env x'=some (.list n sz' [])) (e2:zc env y'=some vy) (hsrc:kl sz vy=some ys)
  (hown:(kh env x').isSome=true) (hnn:n=false) (hlen:ys.length≤1073741824) (hbl:b≤4096) (hzero:∃z,qan P el=some z∧z.length=sz) (hszs:sz=sz')
  (hnew:newBox h0 hp rk (.cells (cellsOf (ys.flatMap qa.flat)))=some h'):
  ∃v w',(execOp a.eval o).run P w=.ok (.value v) w'∧kg P C0 w0 C a.tmps d env ⟨.ms (h0+rk) 0 ys.length,false,kh env x',h'⟩ v w':=by
 obtain⟨hh,rfl⟩:=qaq hnew
 subst hnn
 subst hszs
 have ha:c.args=#[x,y]:=by z8 Array.ext';simpa using hca
 have hty:c.argTypes=#[t,u]:=by z8 Array.ext';simpa using hct
 obtain⟨i,hi,hib⟩:∃i,P.info? el=some i∧i.bytes=b:=by
  unfold qds at hb
  cases hi:P.info? el with
  |none=>simp[hi]at hb
  |some i=>exact⟨i,rfl,by simpa[hi]using hb⟩
 have hsi:i.size=sz:=by
  unfold yh at hn;rw[hi]at hn;simpa using hn
 obtain⟨z,hz,hzl0⟩:=hzero
 obtain⟨zv,hzv⟩:∃zv,i.zero=some zv:=by
  unfold qan at hz;rw[hi]at hz
  cases hq:i.zero with
  |none=>simp[hq]at hz
  |some v=>exact⟨v,rfl⟩
 have rx:=zt e.rep h1 e1
 have ry:=zt e.rep h2 e2
 obtain⟨news,hs,hnews,hysz,hone⟩:=qvt m hu hut hsrc ry
 have hrunE:∀ {z:Value} {w':World},(Builtin.append_ #[t,u] o.type #[a.eval x,a.eval y]).run P w=.ok z w'→(execOp a.eval o).run P w=.ok (.value z) w':=by
  intro z w' h
  simp[execOp,ho,resolve,hcb,ha,hty,invoke,builtin,h]
 have hnl:news.length=ys.length*sz:=by rw[hnews.length,qai ys hysz]
 rcases rx.list_inv with⟨hh1,_,_⟩|⟨_,r,q,cap,hx,hle,hrow⟩|⟨_,_,ad,hsp,hx⟩
 rotate_right
 ·exact absurd (q33 e h1 hown e1 hx) hsp
 ·cases hh1
 ·obtain⟨s,hs'⟩:=Option.isSome_iff_exists.1 hown
  obtain⟨hx',v0,hl⟩:=qjc hs'
  have hv0:v0=.list false sz []:=by
   subst hx'
   simp only[zc,hl]at e1
   exact Option.some.inj e1
  subst hv0
  obtain⟨cv,hc1,hc2,hc3⟩:=e s _ hl
  have hcv:cv=.slice (some ⟨r,q,none⟩) 0 cap:=by
   have hxe:zq x=some (.tmp s):=by rw[h1,hx']
   cases x with
   |tmp t'=>
    simp only[zq]at hxe
    cases hxe
    have:a.eval (.tmp s)=cv:=by simp[Act.eval,Array.getD_eq_getD_getElem?,hc1]
    rw[←this,hx];rfl
   |const u=>simp only[zq]at hxe;split at hxe<;>cases hxe
   |func f=>simp[zq]at hxe
   |global g=>simp[zq]at hxe
  subst hcv
  obtain⟨hω,hB,hβ,_,hq0,⟨cells,te,hg,hfit⟩,hK⟩:=hc3 rfl
  simp only at hω hB hβ hg hfit hK hq0
  subst hq0
  simp only[List.length_nil]at hx
  by_cases hroom:0+ys.length≤cap
  ·have hcapsz:(0+ys.length)*sz≤cap*sz:=Nat.mul_le_mul_right _ hroom
   have hrun:=qfc (P:=P) (w:=w) (ty:=o.type) ht hi r 0 0 cap (a.eval y) ys.length news (hsi▸hs) hroom hg (by rw[hnl];simp at hcapsz hfit ⊢;omega)
   rw[←hx]at hrun
   have e0:0+0*i.size=0:=by simp
   rw[e0]at hrun
   obtain⟨m',e',hle'⟩:=j2m (tmps:=a.tmps) m e hh hω hB hβ hg (fun o=>hK o (by simp)) (by rw[hnl];simp at hcapsz hfit ⊢;omega) hnews hone
   rw[hs']
   refine⟨_,_,hrunE hrun,_,_,hle',m',e',?_,by simp⟩
   have:=qp.ms (C:=C.box (h0+rk) r) (h0+rk) 0 ys.length r cap (by simp[Ctx.box]) (by omega)
   simpa using this
  ·have hfit':Builtin.nextslicecap (0+ys.length) cap*i.bytes≤281474976710656:=growslice_fits (by omega) (by
    rw[hib]
    exact Nat.le_trans (Nat.mul_le_mul (by omega) hbl) (by decide:2^30*4096≤_))
   have hrun:=run_append_grow_src w t u o.type el i zv ht hi hzv (some ⟨r,0,none⟩) 0 cap [] (run_firstCells_some _ _ _ _ _ _ [] (by simp) (by simp)) (a.eval y) ys.length news (hsi▸hs) (by omega) (by omega) hfit'
   rw[←hx]at hrun
   have hge:=grownCap_ge w (0+ys.length) cap el
   have hx2:Ext w w.drew:=Ext.drew w
   obtain⟨m',e',hle'⟩:=(m.ext hx2).newBox (e.ext hx2) hh (.cells (([]++news).toArray++Builtin.zeroCells zv.cells (grownCap w (0+ys.length) cap el-(0+ys.length))) el) (fun c t fr h=>by cases h;rfl) (.cells (cellsOf (ys.flatMap qa.flat)))
    (q42 hnews hone (by
     intro j v hj
     rw[Array.getElem?_append_left (by simpa using(List.getElem?_eq_some_iff.1 hj).1)]
     simpa using hj) (by have h5:=hnews.length;rw[Array.size_append];simp only[List.nil_append,List.size_toArray];omega))
   refine⟨_,_,hrunE hrun,_,_,hle',m',e'.strip _,?_,by simp⟩
   have:=qp.ms (C:=C.box (h0+rk) w.drew.heap.size) (h0+rk) 0 ys.length w.drew.heap.size (grownCap w (0+ys.length) cap el) (by simp[Ctx.box]) (by omega)
   simpa using this
end
section
variable {P:Program}{C C0:Ctx}{ω:Nat→Option Loc}{w w' w0:World}{hp:j8}{env:Env}{a:Act}{o:Oper}{tmps:Array Value}{d:Loc}
theorem qos {b ver len:Nat}{v:Value}(h:Rep C (.vref b ver len) v):∃r0 r cap,C.β b=some r0∧C.T (r0,ver,r,cap)∧len≤cap∧v=.slice (some ⟨r,0,none⟩) len cap:=by
 cases h with
 |vref _ _ _ r0 r cap hb ht hl=>exact⟨r0,r,cap,hb,ht,hl,rfl⟩
theorem q6o {b ver off:Nat}{v:Value}(h:Rep C (.vel b ver off) v):∃r0 r cap,C.β b=some r0∧C.T (r0,ver,r,cap)∧v=.pointer (some ⟨r,off,none⟩):=by
 cases h with
 |vel _ _ _ r0 r cap hb ht=>exact⟨r0,r,cap,hb,ht,rfl⟩
theorem qyg {t:TypeId}{x:Operand}{x':qh}{i:Nat}{fs:Array Field}{f:Field}{n b ver q:Nat}(he:EnvRep C env a.tmps)(ho:o.op=.fieldAddr t x i)(ht:P.underlying t=some (.struct fs))(hf:fs[i]?=some f)
  (hn:yh P f.type=some n) (hn0:0<n) (h1:zq x=some x') (e1:zc env x'=some (.vel b ver q)):Val P C a o w (.vel b ver (q+f.offset)):=by
 obtain⟨r0,r,cap,hb,hT,hq⟩:=q6o (zt he h1 e1)
 refine⟨.pointer (some ⟨r,q+f.offset,none⟩),?_,.vel _ _ _ r0 r cap hb hT⟩
 simp[execOp,ho,Instr.fieldAt,run_underlying ht,hf,hq,Instr.sureAddr,fieldPlace,qah hn,Nat.pos_iff_ne_zero.1 hn0,add_lit]
theorem qy6 {t e:TypeId}{x i:Operand}{x' i':qh}{sz:Nat}{iv:qa}{b ver len j:Nat}(he:EnvRep C env a.tmps)(ho:o.op=.indexAddr t x i)(ht:P.underlying t=some (.slice e))
  (hn:yh P e=some sz) (h1:zq x=some x') (h2:zq i=some i') (e1:zc env x'=some (.vref b ver len)) (e2:zc env i'=some iv) (hj:idx len iv=some j):Val P C a o w (.vel b ver (j*sz)):=by
 obtain⟨r0,r,cap,hb,hT,_,hq⟩:=qos (zt he h1 e1)
 obtain⟨k,rfl,hlt⟩:=qng hj
 have hi:=(zt he h2 e2).int_inv
 refine⟨.pointer (some ⟨r,j*sz,none⟩),?_,.vel _ _ _ r0 r cap hb hT⟩
 simp[execOp,ho,Instr.indexAt,run_underlying ht,hq,hi,asIntOf,qah hn,hlt,add_lit]
theorem q9e {t e:TypeId}{x:Operand}{lo hi:Option Operand}{x':qh}{lo' hi':Option qh}{sz j b ver len:Nat}(he:EnvRep C env a.tmps)(ho:o.op=.slice t x lo hi none)(ht:P.underlying t=some (.slice e))
  (hn:yh P e=some sz) (h1:zq x=some x') (h2:qew lo=some lo') (h3:qew hi=some hi') (e1:zc env x'=some (.vref b ver len)) (b2:bnd env len len hi'=some j) (b1:bnd env 0 j lo'=some 0):Val P C a o w (.vref b ver j):=by
 obtain⟨r0,r,cap,hb,hT,hl,hq⟩:=qos (zt he h1 e1)
 obtain⟨hbr,k1,k2⟩:=qop (P:=P) (isS:=true) he h2 h3 b2 b1 hl w
 refine⟨.slice (some ⟨r,0,none⟩) j cap,?_,.vref _ _ _ r0 r cap hb hT (by omega)⟩
 simp[execOp,ho,Instr.sliceAt,Instr.slice,run_underlying ht,hq,hbr,qah hn,add_lit]
theorem jes {c:Call}{x:Operand}{t e:TypeId}{x':qh}{b ver n:Nat}(he:EnvRep C env a.tmps)(ho:o.op=.call c)(hcb:c.callee=.builtin .len)(hca:c.args.toList=[x])(hct:c.argTypes.toList=[t])
  (h1:zq x=some x') (e1:zc env x'=some (.vref b ver n)) (ht:P.underlying t=some (.slice e)):Val P C a o w (.int .i64 n):=by
 have ha:c.args=#[x]:=by z8 Array.ext';simpa using hca
 have hty:c.argTypes=#[t]:=by z8 Array.ext';simpa using hct
 refine⟨.int .i64 n,?_,.int _ _⟩
 simp only[execOp,ho,resolve,hcb,ha,hty,Sem.run_bind,Sem.run_pure,Result.andThen_ok,invoke,builtin,Builtin.len_]
 obtain⟨r0,r,cap,_,_,_,hq⟩:=qos (zt he h1 e1)
 simp[run_underlying ht,hq,goInt]
theorem jdr (m:MInv P C ω w0 C0 hp w){b ver q cap r0 sz:Nat}{xs:List qa}(hb:C.β b=some r0)(hT:C.T (r0,ver,q,cap))(hbx:hp[b]?=some (.vec sz ver xs)):
  ∃vs,RepL C (xs.flatMap qa.flat) vs∧(∀(j:Nat) v,vs[j]?=some v→w.cell? ⟨q,j,none⟩=some v∧v.oneCell'=true)∧VecIs C.K w q sz xs cap:=by
 obtain⟨q',cap',k1,k2,k3,k4,_⟩:=m.box b _ r0 hbx hb
 have heq:=(k2 _ hT rfl).2 rfl
 simp only[Prod.mk.injEq]at heq
 obtain⟨rfl,rfl⟩:=heq
 obtain⟨cells,t,vs,g1,g2,g3,g4,g5,g6,g7⟩:=id k3
 refine⟨vs,qp.imp (C:=.iso C.K) (C':=C) ⟨fun _ _ _ h=>h,fun b r h=>by cases h⟩ g5 (fun _ h=>h.elim),fun j v hj=>⟨?_,g7 v (List.mem_of_getElem? hj)⟩,k3⟩
 unfold World.cell?
 rw[g1]
 simp only[Option.isSome_none,Bool.false_eq_true,if_false]
 exact g6 j v hj
theorem q0m (m:MInv P C ω w0 C0 hp w)(he:EnvRep C env a.tmps){t:TypeId}{x:Operand}{x':qh}{n:Nat}{ag:Bool}{b ver q sz:Nat}{xs:List qa}{v:qa}(ho:o.op=.load t x)(hg:qak P t=some ag)(hn:yh P t=some n)(h1:zq x=some x')(e1:zc env x'=some (.vel b ver q))
  (hbx:hp[b]?=some (.vec sz ver xs)) (hl:q+n≤(xs.flatMap qa.flat).length) (hv:(ag=true∧v=.agg (((xs.flatMap qa.flat).drop q).take n))∨(ag=false∧((xs.flatMap qa.flat).drop q).take n=[v])):Val P C a o w v:=by
 obtain⟨r0,r,cap,hb,hT,hq⟩:=q6o (zt he h1 e1)
 obtain⟨vs,k1,k2,_⟩:=jdr m hb hT hbx
 have k3:RepL C (((xs.flatMap qa.flat).drop q).take n) ((vs.drop q).take n):=(k1.drop q).take n
 have k4:∀j u,((vs.drop q).take n)[j]?=some u→w.cell? ⟨r,q+j,none⟩=some u:=by
  intro j u hj
  rw[List.getElem?_take]at hj
  split at hj
  ·rw[List.getElem?_drop]at hj;exact(k2 _ _ hj).1
  ·cases hj
 have k5:((vs.drop q).take n).length=n:=by rw[k3.length,List.length_take,List.length_drop];omega
 rcases hv with⟨rfl,rfl⟩|⟨rfl,hv⟩
 ·exact⟨.agg ⟨(vs.drop q).take n⟩,by simp[execOp,ho,Instr.loadAt,hq,Instr.sureAddr,qgo hg hn k5 k4],.agg _ _ k3⟩
 ·rw[hv]at k3
  generalize hgen:(vs.drop q).take n=us at k3 k4 k5
  cases k3 with
  |cons _ _ u us hu hnil=>
   cases hnil
   refine⟨u,?_,hu⟩
   have:=qge (P:=P) hg (by simpa using k4 0 u rfl)
   simp[execOp,ho,Instr.loadAt,hq,Instr.sureAddr,this]
def Ctx.tok (C:Ctx)(x:Nat×Nat×Nat×Nat):Ctx:={ C with T:=fun q=>C.T q∨q=x }
theorem Ctx.tok_le {x:Nat×Nat×Nat×Nat}:C.le (C.tok x):=⟨fun _ _ _ h=>h,fun _ _ h=>h,rfl,fun _ h=>h,fun _ h=>.inl h⟩
theorem OwnV.tok {x:Nat×Nat×Nat×Nat}{B:Nat}{ℓ:Loc}{y:qa}{v:Value}(h:OwnV C ω w B ℓ y v):OwnV (C.tok x) ω w B ℓ y v:=by
 unfold OwnV at *
 exact h
theorem EnvRel.tok {x:Nat×Nat×Nat×Nat}{B:Nat}(e:EnvRel C ω w B env tmps):EnvRel (C.tok x) ω w B env tmps:=
 fun s y hy=>let ⟨v,h1,h2,h3⟩:=e s y hy; ⟨v,h1,qp.mono Ctx.tok_le h2,fun h=>(h3 h).tok⟩
theorem MInv.toVec (m:MInv P C ω w0 C0 hp w){b r sz ver q cap:Nat}{xs:List qa}(hβ:C.β b=some r)(hT:∀x,C.T x→x.1=r→x.2.1<ver)(hv:VecIs C.K w q sz xs cap)(ho:q=r∨qi5 C ω w w0.heap.size b q xs.length cap)(hr:∃cs t,w.heap[r]?=some (.cells cs t (0,0))):
  MInv P (C.tok (r,ver,q,cap)) ω w0 C0 (hp.set b (.vec sz ver xs)) w:=by
 have hlt:=m.lt b r hβ
 refine { m with lt:=fun k p hk=>by rw[List.length_set];exact m.lt k p hk,grown:=Ctx.le_trans m.grown Ctx.tok_le,box:=?_,tlt:=?_ }
 ·intro k y p hy hk
  by_cases hkb:k=b
  ·subst hkb
   rw[List.getElem?_set_self hlt.2]at hy
   cases hy
   obtain rfl:r=p:=by have:C.β k=some p:=hk;rw[hβ]at this;exact Option.some.inj this
   refine⟨q,cap,.inr rfl,fun x hx hxr=>?_,hv,ho.imp id fun h=>h.tok,hr⟩
   rcases hx with hx|rfl
   ·have:=hT x hx hxr
    exact⟨by omega,fun h=>by omega⟩
   ·exact⟨Nat.le_refl _,fun _=>rfl⟩
  ·rw[List.getElem?_set_ne (Ne.symm hkb)]at hy
   have hpr:p≠r:=fun h=>hkb (m.inj k b p hk (h▸hβ))
   refine(m.box k y p hy hk).mono Ctx.tok_le (fun j z u h=>h.tok) (fun x hx hxp=>?_)
   rcases hx with hx|rfl
   ·exact hx
   ·exact absurd hxp.symm hpr
 ·intro x hx
  rcases hx with hx|rfl
  ·exact m.tlt x hx
  ·exact hlt.1
theorem MInv.toDead (m:MInv P C ω w0 C0 hp w){b r:Nat}(hβ:C.β b=some r)(hr:∃cs t,w.heap[r]?=some (.cells cs t (0,0))):MInv P C ω w0 C0 (hp.set b .dead) w:=
 m.updBox (ω':=ω) (w':=w) (r:=r) (b:=b) ⟨rfl,fun _ _=>rfl,fun c t fr h=>by obtain⟨cs,t',h'⟩:=hr;rw[h']at h;cases h;rfl,rfl,rfl⟩ hβ .dead (fun _ _ _ _ _ h=>h) hr
theorem MInv.ownUpd (m:MInv P C ω w0 C0 hp w){b q n cap:Nat}{cs:Array Value}(hd:hp[b]?=some .dead)(ho:qi5 C ω w w0.heap.size b q n cap)(hu:jm w w' q cs):MInv P C ω w0 C0 hp w':=by
 obtain⟨h1,h2,h3,_,_,⟨cells,elem,h5,_⟩,h7⟩:=ho
 simp only at h1 h2 h3 h5 h7
 have hK:∀o,C.K q o=none:=fun o=>h7 o (by simp)
 refine { base:=m.base,know:=?_,kone:=m.kone,apart:=m.apart,inj:=m.inj,lt:=?_,size:=?_,frame:=?_,dfr:=?_,os:=hu.os.trans m.os,output:=hu.output.trans m.output,fresh:=m.fresh,grown:=m.grown,old:=m.old,box:=?_,tlt:=fun x hx=>by rw[hu.size];exact m.tlt x hx }
 ·intro k p v hk
  have hne:k≠q:=fun h=>by rw[h,hK p]at hk;cases hk
  have hc:=m.know _ _ _ hk
  simp only[World.cell?]at hc ⊢
  rw[hu.other k hne];exact hc
 ·intro k p hk;rw[hu.size];exact m.lt k p hk
 ·rw[hu.size];exact m.size
 ·intro k hk hn hw
  have hne:k≠q:=fun h=>by
   subst h
   rcases h2 with h|h
   ·omega
   ·rw[m.grown.w]at h;exact hw h
  rw[hu.other k hne];exact m.frame k hk hn hw
 ·intro k hk
  have hne:k≠q:=fun h=>by
   subst h
   have:=m.dfr k hk
   rw[h5]at this;cases this
  rw[hu.other k hne];exact m.dfr k hk
 ·intro k x p hx hk
  have hne:p≠q:=fun h=>h3 k (h▸hk)
  by_cases hkb:k=b
  ·subst hkb
   rw[hd]at hx
   cases hx
   obtain⟨cs',t',hg⟩:=m.box k .dead p hd hk
   exact⟨cs',t',by rw[hu.other p hne];exact hg⟩
  ·exact(m.box k x p hx hk).upd hu hne (fun j=>by rw[h1];intro h;injection h with h;injection h with h _;exact hkb h.symm)
theorem qsr {sz:Nat}:∀ {xs:List qa} (n:Nat),(∀x∈xs,x.flat.length=sz)→(xs.take n).flatMap qa.flat=(xs.flatMap qa.flat).take (n*sz)
 | [],n,_=>by simp
 |x::xs,0,_=>by simp
 |x::xs,n+1,h=>by
  have hx:=h x (List.mem_cons_self ..)
  have h1:x.flat.take ((n+1)*sz)=x.flat:=List.take_of_length_le (by rw[hx,Nat.succ_mul];omega)
  have h2:(n+1)*sz-sz=n*sz:=by rw[Nat.succ_mul];omega
  rw[List.take_succ_cons,List.flatMap_cons,List.flatMap_cons,qsr n (fun y hy=>h y (List.mem_cons_of_mem _ hy)),List.take_append,hx,h1,h2]
theorem VecIs.grown {K:Nat→Nat→Option Value}{q q' sz len cap cap':Nat}{xs ys:List qa}{news olds:List Value}{cells':Array Value}{t':TypeId}(h:VecIs K w q sz xs cap)(hl:len≤xs.length)(hnews:RepL (.iso K) (ys.flatMap qa.flat) news)(hysz:∀y∈ys,y.flat.length=sz)(hone:∀v∈news,v.oneCell'=true)
  (hold:∀vs:List Value,RepL (.iso K) (xs.flatMap qa.flat) vs→(∀(j:Nat) v,vs[j]?=some v→w.cell? ⟨q,j,none⟩=some v)→olds=vs.take (len*sz)) (hcap:len+ys.length≤cap') (hfit:cap'*sz≤cells'.size)
  (hg:w'.heap[q']?=some (.cells cells' t' (0,0))) (hc:∀(j:Nat) v,(olds++news)[j]?=some v→cells'[j]?=some v):VecIs K w' q' sz (xs.take len++ys) cap':=by
 obtain⟨cells,t,vs,g1,g2,g3,g4,g5,g6,g7⟩:=h
 have ho:olds=vs.take (len*sz):=hold vs g5 (fun j v hj=>by
  unfold World.cell?
  rw[g1]
  simp only[Option.isSome_none,Bool.false_eq_true,if_false]
  exact g6 j v hj)
 refine⟨cells',t',olds++news,hg,by rw[List.length_append,List.length_take];omega,hfit,?_,?_,hc,?_⟩
 ·intro x hx
  rcases List.mem_append.1 hx with hx|hx
  ·exact g4 x (List.mem_of_mem_take hx)
  ·exact hysz x hx
 ·rw[List.flatMap_append,qsr len g4,ho]
  exact(g5.take _).append hnews
 ·intro v hv
  rcases List.mem_append.1 hv with hv|hv
  ·rw[ho]at hv;exact g7 v (List.mem_of_mem_take hv)
  ·exact hone v hv
theorem RepL.pure {xs:List qa}{vs:List Value}(h:RepL C xs vs)(hb:zu 0 xs=true):RepL (.iso C.K) xs vs:=
 qp.shift (C:=C) (C':=.iso C.K) 0 (fun _ _ _ h=>h) (fun b r hlt=>by omega) h hb
theorem qmk {n:Nat}:∀ {xs:List qa},zu n xs=true→zu n (xs.flatMap qa.flat)=true
 | [],_=>rfl
 |x::xs,h=>by
  simp only[zu,Bool.and_eq_true]at h
  have key:∀(ys zs:List qa),zu n ys=true→zu n zs=true→zu n (ys++zs)=true:=by
   intro ys zs
   induction ys with
   |nil=>intro _ h;exact h
   |cons y ys ih=>intro h1 h2;simp only[zu,Bool.and_eq_true,List.cons_append]at h1 ⊢;exact⟨h1.1,ih h1.2 h2⟩
  rw[List.flatMap_cons]
  exact key _ _ (by rw[qj1];exact h.1) (qmk h.2)
theorem RepL.fun {xs:List qa}:∀ {vs ws:List Value},RepL C xs vs→RepL C xs ws→vs.length=ws.length:=fun h k=>by rw[h.length,k.length]
theorem jip (m:MInv P C ω w0 C0 hp w)(e:EnvRel C ω w w0.heap.size env a.tmps){c:Call}{t u el:TypeId}{ut:TypeDesc}{x y:Operand}{x' y':qh}{sz b bx ver len:Nat}{xs ys:List qa}{vy:qa}{h':j8}
  (ho:o.op=.call c) (hcb:c.callee=.builtin .append) (hca:c.args.toList=[x,y]) (hct:c.argTypes.toList=[t,u]) (ht:P.underlying t=some (.slice el)) (hu:P.underlying u=some ut) (hut:qey ut=true)
  (hn:yh P el=some sz) (hb:qds P el=some b) (h1:zq x=some x') (h2:zq y=some y') (e1:zc env x'=some (.vref bx ver len)) (e2:zc env y'=some vy) (hsrc:kl sz vy=some ys)
  (hbx:hp[bx]?=some (.vec sz ver xs)) (hle:len≤xs.length) (hlen:len+ys.length≤1073741824) (hbl:b≤4096) (hpy:zu 0 ys=true) (hzero:∃z,qan P el=some z∧z.length=sz)
  (hset:ym hp bx (.vec sz (ver+1) (xs.take len++ys))=some h'):
  ∃v w',(execOp a.eval o).run P w=.ok (.value v) w'∧kg P C0 w0 C a.tmps d env ⟨.vref bx (ver+1) (len+ys.length),false,none,h'⟩ v w':=by
 have hset':h'=hp.set bx (.vec sz (ver+1) (xs.take len++ys)):=by
  unfold ym at hset
  cases hblt:Nat.blt bx hp.length with
  |false=>simp[hblt]at hset
  |true=>simpa[hblt]using hset.symm
 subst hset'
 have ha:c.args=#[x,y]:=by z8 Array.ext';simpa using hca
 have hty:c.argTypes=#[t,u]:=by z8 Array.ext';simpa using hct
 obtain⟨i,hi,hib⟩:∃i,P.info? el=some i∧i.bytes=b:=by
  unfold qds at hb
  cases hi:P.info? el with
  |none=>simp[hi]at hb
  |some i=>exact⟨i,rfl,by simpa[hi]using hb⟩
 have hsi:i.size=sz:=by
  unfold yh at hn;rw[hi]at hn;simpa using hn
 obtain⟨z,hz,hzl0⟩:=hzero
 obtain⟨zv,hzv⟩:∃zv,i.zero=some zv:=by
  unfold qan at hz;rw[hi]at hz
  cases hq:i.zero with
  |none=>simp[hq]at hz
  |some v=>exact⟨v,rfl⟩
 have ry:=zt e.rep h2 e2
 obtain⟨news,hs,hnews,hysz,hone⟩:=qvt m hu hut hsrc ry
 have hnewsP:RepL (.iso C.K) (ys.flatMap qa.flat) news:=hnews.pure (qmk hpy)
 have hrunE:∀ {z:Value} {w':World},(Builtin.append_ #[t,u] o.type #[a.eval x,a.eval y]).run P w=.ok z w'→(execOp a.eval o).run P w=.ok (.value z) w':=by
  intro z w' h
  simp[execOp,ho,resolve,hcb,ha,hty,invoke,builtin,h]
 have hnl:news.length=ys.length*sz:=by rw[hnews.length,qai ys hysz]
 obtain⟨r0,q,cap,hβ,hT,hlc,hx⟩:=qos (zt e.rep h1 e1)
 obtain⟨q',cap',k1,k2,k3,k4,k5⟩:=m.box bx _ r0 hbx hβ
 have heq:=(k2 _ hT rfl).2 rfl
 simp only[Prod.mk.injEq]at heq
 obtain⟨rfl,rfl⟩:=heq
 have hfresh:∀x,C.T x→x.1=r0→x.2.1<ver+1:=fun x hx hr=>by have:=(k2 x hx hr).1;omega
 have hblt:=(m.lt bx r0 hβ).2
 -- the old cells
 obtain⟨cells,te,vs,g1,g2,g3,g4,g5,g6,g7⟩:=id k3
 have hvl:vs.length=xs.length*sz:=by rw[g5.length,qai xs g4]
 have hvle:xs.length*sz≤cap*sz:=Nat.mul_le_mul_right _ g2
 have hlle:len*sz≤xs.length*sz:=Nat.mul_le_mul_right _ hle
 have hold:∀vs':List Value,RepL (.iso C.K) (xs.flatMap qa.flat) vs'→(∀(j:Nat) v,vs'[j]?=some v→w.cell? ⟨q,j,none⟩=some v)→vs.take (len*sz)=vs'.take (len*sz):=by
  intro vs' h3 h4
  have hl':vs'.length=vs.length:=by rw[h3.length,g5.length]
  have:vs'=vs:=by
   z8 List.ext_getElem?
   intro j
   by_cases hj:j<vs.length
   ·have h5:=h4 j _ (List.getElem?_eq_getElem (by omega))
    have h6:=g6 j _ (List.getElem?_eq_getElem hj)
    unfold World.cell? at h5
    rw[g1]at h5
    simp only[Option.isSome_none,Bool.false_eq_true,if_false]at h5
    rw[List.getElem?_eq_getElem hj,List.getElem?_eq_getElem (by omega),←h5,h6]
   ·rw[List.getElem?_eq_none (by omega),List.getElem?_eq_none (by omega)]
  rw[this]
 by_cases hroom:len+ys.length≤cap
 ·-- there is room
  have hcapsz:(len+ys.length)*sz≤cap*sz:=Nat.mul_le_mul_right _ hroom
  rw[Nat.add_mul]at hcapsz
  have hrun:=qfc (P:=P) (w:=w) (ty:=o.type) ht hi q 0 len cap (a.eval y) ys.length news (hsi▸hs) hroom g1 (by rw[hsi,hnl];omega)
  rw[←hx,hsi]at hrun
  have hu':=qe4 g1 (cells.toList.take (0+len*sz)++news++cells.toList.drop (0+len*sz+news.length)).toArray
  have hgat:=setRow_heap w q cells (cells.toList.take (0+len*sz)++news++cells.toList.drop (0+len*sz+news.length)).toArray te (0,0) g1
  generalize hw':w.setRow q (cells.toList.take (0+len*sz)++news++cells.toList.drop (0+len*sz+news.length)).toArray=w' at hrun hu' hgat
  have hvis:VecIs C.K w' q sz (xs.take len++ys) cap:=by
   refine VecIs.grown (olds:=vs.take (len*sz)) k3 hle hnewsP hysz hone hold hroom (by simp;omega) hgat ?_
   intro j v hj
   rw[List.getElem?_toArray]
   have hct:(cells.toList.take (0+len*sz)).length=len*sz:=by simp;omega
   have hvt:(vs.take (len*sz)).length=len*sz:=by simp;omega
   by_cases hjl:j<len*sz
   ·rw[List.append_assoc,List.getElem?_append_left (by rw[hct];exact hjl)]
    rw[List.getElem?_append_left (by rw[hvt];exact hjl),List.getElem?_take_of_lt hjl]at hj
    rw[List.getElem?_take_of_lt (by omega),Array.getElem?_toList]
    exact g6 j v hj
   ·rw[List.getElem?_append_right (by rw[hvt];omega),hvt]at hj
    have hjn:j-len*sz<news.length:=(List.getElem?_eq_some_iff.1 hj).1
    rw[List.append_assoc,List.getElem?_append_right (by rw[hct];omega),hct,List.getElem?_append_left hjn]
    exact hj
  have fin:∀(m1:MInv P C ω w0 C0 (hp.set bx .dead) w') (e1:EnvRel C ω w' w0.heap.size env a.tmps) (ho1:q=r0∨qi5 C ω w' w0.heap.size bx q (xs.take len++ys).length cap) (hr1:∃cs t,w'.heap[r0]?=some (.cells cs t (0,0))),
    kg P C0 w0 C a.tmps d env ⟨.vref bx (ver+1) (len+ys.length),false,none,hp.set bx (.vec sz (ver+1) (xs.take len++ys))⟩ (.slice (some ⟨q,0,none⟩) (len+ys.length) cap) w':=by
   intro m1 e1 ho1 hr1
   have m2:=m1.toVec (b:=bx) (sz:=sz) (ver:=ver+1) (q:=q) (cap:=cap) (xs:=xs.take len++ys) hβ hfresh hvis ho1 hr1
   rw[List.set_set]at m2
   exact⟨_,ω,Ctx.tok_le,m2,e1.tok,.vref _ _ _ r0 q cap hβ (.inr rfl) hroom,by simp⟩
  refine⟨_,_,hrunE hrun,?_⟩
  rcases k4 with rfl|k4
  ·refine fin ?_ (e.updβ hu'.upd hβ) (.inl rfl) ⟨_,_,hgat⟩
   exact m.updBox hu'.upd hβ .dead (fun _ _ _ _ _ h=>h) ⟨_,_,hgat⟩
  ·have hqr:q≠r0:=fun h=>k4.2.2.1 bx (by rw[hβ];exact congrArg some h.symm)
   have md:=m.toDead hβ k5
   have m1:=md.ownUpd (by rw[List.getElem?_set_self hblt]) k4 hu'
   obtain⟨cs5,t5,k5⟩:=k5
   refine fin m1 ?_ (.inr ?_) ⟨cs5,t5,by rw[hu'.other _ (Ne.symm hqr)];exact k5⟩
   ·exact fun s y hy=>let ⟨v,j1,j2,j3⟩:=e s y hy; ⟨v,j1,j2,fun h=>(j3 h).upd hu' (by rw[k4.1];simp)⟩
   ·obtain⟨j1,j2,j3,j4,j5,_,j7⟩:=k4
    exact⟨j1,j2,j3,j4,j5,⟨_,te,hgat,by simp,fun _ _ _ h=>by simp at h⟩,fun o ho=>j7 o (by simp)⟩
 ·-- there is none
  have hfit:Builtin.nextslicecap (len+ys.length) cap*i.bytes≤281474976710656:=growslice_fits (by omega) (by
   rw[hib]
   exact Nat.le_trans (Nat.mul_le_mul hlen hbl) (by decide))
  have holdl:(vs.take (len*sz)).length=len*i.size:=by rw[hsi];simp;omega
  have hrun:=run_append_grow_src w t u o.type el i zv ht hi hzv (some ⟨q,0,none⟩) len cap (vs.take (len*sz)) (run_firstCells_some _ _ _ _ _ _ _ holdl (fun j v hj=>by
   rw[List.getElem?_take]at hj
   split at hj
   ·have h3:=g6 j v hj
    have h4:w.cell? ⟨q,j,none⟩=some v:=by
     unfold World.cell?
     rw[g1]
     simp only[Option.isSome_none,Bool.false_eq_true,if_false]
     exact h3
    rw[add_lit,Nat.zero_add]
    exact h4
   ·cases hj)) (a.eval y) ys.length news (hsi▸hs) (by omega) (by omega) hfit
  rw[←hx]at hrun
  have hge:=grownCap_ge w (len+ys.length) cap el
  have hzl:zv.cells.size=sz:=by
   obtain⟨_,zv',hz1,hz2,_⟩:=qbq (C:=C) hz
   have:=hz1 w
   simp[zeroValue,typeInfo,hi,hzv]at this
   subst this
   have:=hz2.length
   simp at this
   omega
  generalize hcells':((vs.take (len*sz)++news).toArray++Builtin.zeroCells zv.cells (grownCap w (len+ys.length) cap el-(len+ys.length)))=cells' at hrun
  generalize hgc:grownCap w (len+ys.length) cap el=gc at hrun hge hcells'
  have hx2:Ext w w.drew:=Ext.drew w
  have hxa:Ext w.drew (w.drew.alloc (.cells cells' el)):=Ext.alloc _ _ (fun c t fr h=>by cases h;rfl)
  have hga:(w.drew.alloc (.cells cells' el)).heap[w.drew.heap.size]?=some (.cells cells' el (0,0)):=by rw[qdn,if_pos rfl]
  have hvis:VecIs C.K (w.drew.alloc (.cells cells' el)) w.drew.heap.size sz (xs.take len++ys) gc:=by
   refine VecIs.grown (olds:=vs.take (len*sz)) k3 hle hnewsP hysz hone hold hge ?_ hga ?_
   ·rw[←hcells']
    have hvt:(vs.take (len*sz)).length=len*sz:=by simp;omega
    simp only[Array.size_append,List.size_toArray,List.length_append,hvt,hnl]
    have:(Builtin.zeroCells zv.cells (gc-(len+ys.length))).size=(gc-(len+ys.length))*sz:=by simp[Builtin.zeroCells,hzl]
    rw[this,←Nat.add_mul,←Nat.add_mul]
    exact Nat.mul_le_mul_right _ (by omega)
   ·intro j v hj
    rw[←hcells',Array.getElem?_append_left (by simpa using(List.getElem?_eq_some_iff.1 hj).1)]
    simpa using hj
  have md:=((m.toDead hβ k5).ext hx2).fresh1 w.drew.heap.size (.cell bx 0) (Nat.le_refl _)
  have m1:=md.ext hxa
  obtain⟨cs5,t5,k5⟩:=k5
  have m2:=m1.toVec (b:=bx) (sz:=sz) (ver:=ver+1) (q:=w.drew.heap.size) (cap:=gc) (xs:=xs.take len++ys) hβ hfresh hvis (.inr ⟨by simp[own1],.inl (Nat.le_trans m.size hx2.size),fun k hk=>by have:=(m.lt k _ hk).1;simp at this,rfl,rfl,⟨cells',el,hga,by simp,fun _ _ _ h=>by simp at h⟩,fun o _=>m.K_new _ hx2.size o⟩) ⟨cs5,t5,(hx2.trans hxa).get k5⟩
  rw[List.set_set]at m2
  refine⟨_,_,hrunE hrun,_,_,Ctx.tok_le,m2,(((e.ext hx2).fresh (Nat.le_refl _)).ext hxa).tok,.vref _ _ _ r0 _ gc hβ (.inr rfl) (by omega),by simp⟩
theorem ja1 (m:MInv P C ω w0 C0 hp w)(e:EnvRel C ω w w0.heap.size env tmps){bx sz cap:Nat}{xs:List qa}{cells:Array Value}{te:TypeId}{vs:List Value}(hh:hp[bx]?=some .hole)(hvs:RepL C (xs.flatMap qa.flat) vs)(hpx:zu 0 xs=true)(hsz:∀x∈xs,x.flat.length=sz)
  (hone:∀v∈vs,v.oneCell'=true) (hc:∀(j:Nat) v,vs[j]?=some v→cells[j]?=some v) (hcap:xs.length≤cap) (hfit:cap*sz≤cells.size):
  kg P C0 w0 C tmps d env ⟨.vref bx 0 xs.length,false,none,hp.set bx (.vec sz 0 xs)⟩ (.slice (some ⟨w.heap.size,0,none⟩) xs.length cap) (w.alloc (.cells cells te)):=by
 obtain⟨m1,e1,hle1⟩:=m.newBox e hh (.cells cells te) (fun c t fr h=>by cases h;rfl) .dead (fun C' ω' w' _ hg=>⟨cells,te,hg⟩)
 have hga:(w.alloc (.cells cells te)).heap[w.heap.size]?=some (.cells cells te (0,0)):=by rw[qdn,if_pos rfl]
 have hβ:(C.box bx w.heap.size).β bx=some w.heap.size:=by simp[Ctx.box]
 have m2:=m1.toVec (b:=bx) (r:=w.heap.size) (sz:=sz) (ver:=0) (q:=w.heap.size) (cap:=cap) (xs:=xs) hβ (fun x hx hr=>by have:=m.tlt x hx;omega) ⟨cells,te,vs,hga,hcap,hfit,hsz,hvs.pure (qmk hpx),hc,hone⟩ (.inl rfl) ⟨cells,te,hga⟩
 rw[List.set_set]at m2
 exact⟨_,ω,Ctx.le_trans hle1 Ctx.tok_le,m2,e1.tok,.vref _ _ _ w.heap.size w.heap.size cap hβ (.inr rfl) hcap,by simp⟩
theorem jex (m:MInv P C ω w0 C0 hp w)(e:EnvRel C ω w w0.heap.size env a.tmps){c:Call}{t u el:TypeId}{ut:TypeDesc}{x y:Operand}{x' y':qh}{sz sz0 b h0 rk:Nat}{ys:List qa}{vy:qa}{h':j8}
  (ho:o.op=.call c) (hcb:c.callee=.builtin .append) (hca:c.args.toList=[x,y]) (hct:c.argTypes.toList=[t,u]) (ht:P.underlying t=some (.slice el)) (hu:P.underlying u=some ut) (hut:qey ut=true)
  (hn:yh P el=some sz) (hb:qds P el=some b) (h1:zq x=some x') (h2:zq y=some y') (e1:zc env x'=some (.list true sz0 [])) (e2:zc env y'=some vy) (hsrc:kl sz vy=some ys)
  (hlen:ys.length≤1073741824) (hne:ys≠[]) (hbl:b≤4096) (hpy:zu 0 ys=true) (hzero:∃z,qan P el=some z∧z.length=sz) (hnew:newBox h0 hp rk (.vec sz 0 ys)=some h'):
  ∃v w',(execOp a.eval o).run P w=.ok (.value v) w'∧kg P C0 w0 C a.tmps d env ⟨.vref (h0+rk) 0 ys.length,false,none,h'⟩ v w':=by
 obtain⟨hh,rfl⟩:=qaq hnew
 have ha:c.args=#[x,y]:=by z8 Array.ext';simpa using hca
 have hty:c.argTypes=#[t,u]:=by z8 Array.ext';simpa using hct
 obtain⟨i,hi,hib⟩:∃i,P.info? el=some i∧i.bytes=b:=by
  unfold qds at hb
  cases hi:P.info? el with
  |none=>simp[hi]at hb
  |some i=>exact⟨i,rfl,by simpa[hi]using hb⟩
 have hsi:i.size=sz:=by
  unfold yh at hn;rw[hi]at hn;simpa using hn
 obtain⟨z,hz,hzl0⟩:=hzero
 obtain⟨zv,hzv⟩:∃zv,i.zero=some zv:=by
  unfold qan at hz;rw[hi]at hz
  cases hq:i.zero with
  |none=>simp[hq]at hz
  |some v=>exact⟨v,rfl⟩
 have ry:=zt e.rep h2 e2
 obtain⟨news,hs,hnews,hysz,hone⟩:=qvt m hu hut hsrc ry
 have hrunE:∀ {z:Value} {w':World},(Builtin.append_ #[t,u] o.type #[a.eval x,a.eval y]).run P w=.ok z w'→(execOp a.eval o).run P w=.ok (.value z) w':=by
  intro z w' h
  simp[execOp,ho,resolve,hcb,ha,hty,invoke,builtin,h]
 have hnl:news.length=ys.length*sz:=by rw[hnews.length,qai ys hysz]
 have hx:a.eval x=.slice none 0 0:=by
  rcases(zt e.rep h1 e1).list_inv with⟨_,_,hx⟩|⟨hf,_⟩|⟨hf,_⟩
  ·exact hx
  ·cases hf
  ·cases hf
 have hpos:0<ys.length:=List.length_pos_iff.2 hne
 have hfit:Builtin.nextslicecap (0+ys.length) 0*i.bytes≤281474976710656:=growslice_fits (by omega) (by
  rw[hib]
  exact Nat.le_trans (Nat.mul_le_mul (by omega) hbl) (by decide:2^30*4096≤_))
 have hrun:=run_append_grow_src w t u o.type el i zv ht hi hzv none 0 0 [] (run_firstCells_none _ _ _ _ _) (a.eval y) ys.length news (hsi▸hs) (by omega) (by omega) hfit
 rw[←hx]at hrun
 have hge:=grownCap_ge w (0+ys.length) 0 el
 have hzl:zv.cells.size=sz:=by
  obtain⟨_,zv',hz1,hz2,_⟩:=qbq (C:=C) hz
  have:=hz1 w
  simp[zeroValue,typeInfo,hi,hzv]at this
  subst this
  have:=hz2.length
  simp at this
  omega
 generalize hcells':(([]++news).toArray++Builtin.zeroCells zv.cells (grownCap w (0+ys.length) 0 el-(0+ys.length)))=cells' at hrun
 generalize hgc:grownCap w (0+ys.length) 0 el=gc at hrun hge hcells'
 have hx2:Ext w w.drew:=Ext.drew w
 have:=ja1 (d:=d) (tmps:=a.tmps) (m.ext hx2) (e.ext hx2) (te:=el) (cap:=gc) (sz:=sz) (cells:=cells') hh hnews hpy hysz hone (fun j v hj=>by
  rw[←hcells',List.nil_append,Array.getElem?_append_left (by simpa using(List.getElem?_eq_some_iff.1 hj).1)]
  simpa using hj) (by omega) (by
   rw[←hcells']
   have h5:(Builtin.zeroCells zv.cells (gc-(0+ys.length))).size=(gc-(0+ys.length))*sz:=by simp[Builtin.zeroCells,hzl]
   simp only[Array.size_append,List.size_toArray,List.nil_append,hnl,h5]
   rw[←Nat.add_mul]
   exact Nat.mul_le_mul_right _ (by omega))
 rw[Nat.zero_add]at hrun
 exact⟨_,_,hrunE hrun,this⟩
theorem jev (m:MInv P C ω w0 C0 hp w)(e:EnvRel C ω w w0.heap.size env a.tmps){t el:TypeId}{ps:Array (Nat×Operand)}{len sz h0 rk:Nat}{z:List qa}{ps':List (Nat×qh)}{qs:List (Nat×qa)}{xs:List qa}{h':j8}
  (ho:o.op=.buildSlice t len ps) (ht:P.underlying t=some (.slice el)) (hn:yh P el=some sz) (hz:qan P el=some z) (hlen:sz*len≤65536) (h00:0<sz) (hzl:z.length=sz)
  (hps:qi3 ps.toList=some ps') (hq:qac env sz ps'=some qs) (hx:qdp (List.replicate len (qdy sz z)) qs=some xs) (hpx:zu 0 xs=true) (hnew:newBox h0 hp rk (.vec sz 0 xs)=some h'):
  ∃v w',(execOp a.eval o).run P w=.ok (.value v) w'∧kg P C0 w0 C a.tmps d env ⟨.vref (h0+rk) 0 xs.length,false,none,h'⟩ v w':=by
 obtain⟨hh,rfl⟩:=qaq hnew
 obtain⟨ds,hrun,hdr,h1,hxs,hxlen,hfit⟩:=qn8 (C:=C) (ω:=ω) (w:=w) (w0:=w0) e ho ht hn hz hlen h00 hzl hps hq hx
 refine⟨_,_,hrun,?_⟩
 have hcore:=ja1 (d:=d) (tmps:=a.tmps) m e (te:=el) (cap:=len) (sz:=sz) (cells:=ds) hh hdr hpx hxs h1 (by intro j v h;simpa using h) (by omega) hfit
 rw[hxlen]at hcore ⊢
 exact hcore
theorem q75 (m:MInv P C ω w0 C0 hp w)(e:EnvRel C ω w w0.heap.size env a.tmps){t:TypeId}{z:List qa}(ho:o.op=.alloc t)(hz:qan P t=some z):
  ∃v w',(execOp a.eval o).run P w=.ok (.value v) w'∧kg P C0 w0 C a.tmps d env ⟨.pend z.length,true,none,hp⟩ v w':=by
 obtain⟨_,zv,hzr,hzrep,hz1⟩:=qbq (C:=C) hz
 have hx:Ext w (w.alloc (.cells zv.cells t)):=Ext.alloc w _ (fun c t fr h=>by cases h;rfl)
 have hzl:zv.cells.size=z.length:=by have:=hzrep.length;simpa using this
 refine⟨.pointer (some ⟨w.heap.size,0,none⟩),_,by simp[execOp,ho,Instr.alloc,hzr,newVar,newRow],C,Abs.own1 ω w.heap.size d,Ctx.le_refl C,(m.fresh1 _ d (Nat.le_refl _)).ext hx,(e.fresh (Nat.le_refl _)).ext hx,.pend _ _,fun _=>?_⟩
 refine⟨by simp[Abs.own1],.inl m.size,fun b hb=>by have:=(m.lt b _ hb).1;simp at this,rfl,rfl,⟨zv.cells,t,by rw[qdn,if_pos rfl],by simp;omega,fun _ _ _ h=>by simp at h⟩,fun o _=>m.K_new _ (Nat.le_refl _) o⟩
theorem jad (m:MInv P C ω w0 C0 hp w)(e:EnvRel C ω w w0.heap.size env a.tmps){t:TypeId}{x y:Operand}{y':qh}{n s:Nat}{v:qa}(ho:o.op=.store t x y)(hn:yh P t=some n)
  (h1:zq x=some (.tmp s)) (h2:zq y=some y') (hl:ye s env=some (.pend n,true)) (e2:zc env y'=some v) (hvl:v.flat.length=n) (hs:v.flat.all ze=true):
  ∃w' C' ω',(execOp a.eval o).run P w=.ok .skip w'∧C.le C'∧MInv P C' ω' w0 C0 hp w'∧EnvRel C' ω' w' w0.heap.size ((s,.vptr v,false)::env) a.tmps:=by
 obtain⟨cv,c1,c2,c3⟩:=e s _ hl
 have hev:a.eval x=cv:=by
  cases x with
  |tmp t'=>
   simp only[zq]at h1
   cases h1
   simp[Act.eval,Array.getD_eq_getD_getElem?,c1]
  |const u=>simp only[zq]at h1;split at h1<;>cases h1
  |func f=>simp[zq]at h1
  |global g=>simp[zq]at h1
 cases c2 with
 |pend _ ad=>
  obtain⟨hω,hB,hβ,hsp,hoff,⟨cells,te,hg,hfit,_⟩,hK⟩:=c3 rfl
  obtain⟨r,q,sp⟩:=ad
  simp only at hω hB hβ hsp hoff hg hfit hK
  subst hsp
  subst hoff
  have ry:=zt e.rep h2 e2
  have hc:=qer ry hs
  have hone:=qc8 hc (fun y hy=>List.all_eq_true.1 hs y hy)
  have hcl:(a.eval y).cells.toList.length=n:=by rw[hc.length,hvl]
  have hrun:=qla (P:=P) (t:=t) (off:=0) hn hcl hg (by omega) hone
  obtain⟨m',e',hle⟩:=qxi (d:=.slot s) m e (r:=r) (q:=0) (news:=(a.eval y).cells.toList) hω hB hβ hg (by omega) (fun o _=>hK o (by simp)) hone
  refine⟨_,_,_,?_,hle,m',?_⟩
  ·simp only[execOp,ho,Instr.storeAt,Sem.run_bind,hev,Instr.sureAddr,Sem.run_pure,Result.andThen_ok,hrun]
  ·intro t' z hz
   by_cases hts:t'=s
   ·subst hts
    simp only[ye,Nat.beq_refl,cT,Option.some.injEq]at hz
    subst hz
    exact⟨_,c1,.vptr _ _ _ (Ctx.put_cells (fun o _=>hK o (by simp)) hc),by simp⟩
   ·have hb:Nat.beq s t'=false:=by
     cases hb:Nat.beq s t' with
     |false=>rfl
     |true=>exact absurd (Nat.eq_of_beq_eq_true hb).symm hts
    simp only[ye,hb,cond_false]at hz
    refine e' t' z ?_
    simp only[k9,hl,ye,hb,cond_false]
    exact hz
end
section
variable {P:Program}{C C0:Ctx}{ω:Nat→Option Loc}{w w' w0:World}{hp:j8}{env:Env}{a:Act}{o:Oper}{tmps:Array Value}{d:Loc}
def qay (w:World)(r:Nat)(x:Obj):World:={ w with heap:=w.heap.setIfInBounds r x }
theorem qfm {r:Nat}{x:Obj}(h:r<w.heap.size):(qay w r x).heap[r]?=some x:=by
 show(w.heap.setIfInBounds r x)[r]?=_
 rw[Array.getElem?_setIfInBounds_self_of_lt h]
theorem qg0 {r:Nat}{x:Obj}(h:r<w.heap.size)(hx:∀c t fr,x=.cells c t fr→fr=(0,0)):jk w (qay w r x) r where
 size:=by simp[qay]
 other k hk:=by
  show(w.heap.setIfInBounds r x)[k]?=_
  rw[Array.getElem?_setIfInBounds_ne (Ne.symm hk)]
 fz c t fr hc:=by
  rw[qfm h]at hc
  exact hx c t fr (Option.some.inj hc)
 os:=rfl
 output:=rfl
theorem qdv {r:Nat}{x y:Obj}(h:w.heap[r]?=some y)(hy:∀c t f,y≠.cells c t f):(setObj r x).run P w=.ok () (qay w r x):=by
 cases y with
 |cells c t f=>exact absurd rfl (hy c t f)
 |_=>simp[setObj,Sem.run,qay,h]
theorem qbu {r:Nat}{y:Obj}(h:w.heap[r]?=some y)(hy:∀c t f,y≠.cells c t f):(getObj r).run P w=.ok y w:=by
 cases y with
 |cells c t f=>exact absurd rfl (hy c t f)
 |_=>simp[getObj,Sem.run,h]
theorem jaw (m:MInv P C ω w0 C0 hp w)(e:EnvRel C ω w w0.heap.size env a.tmps){x:Operand}{x':qh}{b pos:Nat}{s:List UInt8}(ho:o.op=.next x true)(h1:zq x=some x')(e1:zc env x'=some (.ptr b 0))(hbx:hp[b]?=some (.iter s pos)):
  (pos<s.length→∀h',ym hp b (.iter s (pos+(zg s pos).2))=some h'→∃v w',(execOp a.eval o).run P w=.ok (.value v) w'∧kg P C0 w0 C a.tmps d env ⟨.tup [.bool true,.int .i64 pos,.int .i32 (zg s pos).1],false,none,h'⟩ v w') ∧
  (¬pos<s.length→∃v w',(execOp a.eval o).run P w=.ok (.value v) w'∧kg P C0 w0 C a.tmps d env ⟨.tup [.bool false],false,none,hp⟩ v w'):=by
 obtain⟨r,hr,hq⟩:=(zt e.rep h1 e1).ptr_inv
 have hbox:w.heap[r]?=some (.stringIter ⟨⟨s⟩⟩ pos):=m.box b _ r hbx hr
 have hlt:=(m.lt b r hr).1
 have hsz:(⟨⟨s⟩⟩:ByteArray).size=s.length:=rfl
 constructor
 ·intro hpos h' hset
  obtain rfl:=qes hset
  have hu:=qg0 (w:=w) (r:=r) (x:=.stringIter ⟨⟨s⟩⟩ (pos+(zg s pos).2)) hlt (by simp)
  refine⟨.tuple #[.bool true,goInt pos,.int .i32 (zg s pos).1],qay w r (.stringIter ⟨⟨s⟩⟩ (pos+(zg s pos).2)),?_,C,ω,Ctx.le_refl C,m.updBox hu hr _ (fun _ _ _ _ _ h=>h) (qfm hlt),e.updβ hu hr,?_,by simp⟩
  ·have hp':pos<(⟨⟨s⟩⟩:ByteArray).size:=hpos
   have hset:=qdv (P:=P) (x:=.stringIter ⟨⟨s⟩⟩ (pos+(zg s pos).2)) hbox (by simp)
   simp only[execOp,ho,hq,Instr.next,Sem.run_bind,qbu hbox (by simp),Result.andThen_ok,hp',if_true]
   unfold zg at hset ⊢
   simp only[Sem.run_bind,hset,Result.andThen_ok,Sem.run_pure]
  ·refine .tup _ _ (.cons _ _ _ _ (.bool _) (.cons _ _ _ _ ?_ (.cons _ _ _ _ (.int _ _) .nil)))
   exact .int _ _
 ·intro hpos
  have hp':¬pos<(⟨⟨s⟩⟩:ByteArray).size:=hpos
  refine⟨.tuple #[.bool false],w,?_,q1v m e (.tup _ _ (.cons _ _ _ _ (.bool _) .nil))⟩
  simp only[execOp,ho,hq,Instr.next,Sem.run_bind,qbu hbox (by simp),Result.andThen_ok,hp',if_false,Sem.run_pure]
theorem qrx {t:TypeId}{kd:Kd}(h:kdT P t=some kd):(kd=.int∧∃k,P.underlying t=some (.int k))∨(kd=.str∧P.underlying t=some .string)∨(kd=.bool∧P.underlying t=some .bool):=by
 unfold kdT at h
 split at h<;>first|cases h|skip
 ·exact .inl ⟨rfl,_,‹_›⟩
 ·exact .inr (.inl ⟨rfl,‹_›⟩)
 ·exact .inr (.inr ⟨rfl,‹_›⟩)
theorem qvb {t:TypeId}{td:TypeDesc}{kd:Kd}{x y:qa}{u v:Value}{b:Bool}(ht:P.underlying t=some td)(hk:kdT P t=some kd)(hx:Rep C x u)(hy:Rep C y v)(h:qcm kd x y=some b):Instr.sameNow td u v=some b∧(b=true→x=y∧u=v∧Instr.sameBits 10000 v u=true):=by
 rcases qrx hk with⟨rfl,k,hu⟩|⟨rfl,hu⟩|⟨rfl,hu⟩<;>rw[hu]at ht<;>cases ht
 ·cases x<;>cases y<;>simp only[qcm]at h<;>first|cases h|skip
  rename_i k1 n1 k2 n2
  have e1:=hx.int_inv
  have e2:=hy.int_inv
  subst e1;subst e2
  by_cases hkk:k1=k2
  ·subst hkk
   simp only[decide_true,cT,Option.some.injEq]at h
   refine⟨by simp[Instr.sameNow,h],fun hb=>?_⟩
   subst hb
   have:n1=n2:=by simpa using h
   subst this
   exact⟨rfl,rfl,by simp[Instr.sameBits]⟩
  ·simp[hkk]at h
 ·cases x<;>cases y<;>simp only[qcm]at h<;>first|cases h|skip
  rename_i s1 s2
  have e1:=hx.str_inv
  have e2:=hy.str_inv
  subst e1;subst e2
  have hbeq:((⟨⟨s1⟩⟩:ByteArray) == ⟨⟨s2⟩⟩)=(s1 == s2):=by
   show(Array.mk s1 == Array.mk s2)=_
   simp
  refine⟨by simp only[Instr.sameNow,hbeq],fun hb=>?_⟩
  have hss:s1=s2:=by simpa using hb
  subst hss
  refine⟨rfl,rfl,?_⟩
  simp only[Instr.sameBits,hbeq]
  simp
 ·cases x<;>cases y<;>simp only[qcm]at h<;>first|cases h|skip
  rename_i b1 b2
  have e1:=hx.bool_inv
  have e2:=hy.bool_inv
  subst e1;subst e2
  refine⟨by simp[Instr.sameNow],fun hb=>?_⟩
  have hss:b1=b2:=by simpa using hb
  subst hss
  exact⟨rfl,rfl,by simp[Instr.sameBits]⟩
theorem qhl {t:TypeId}{td:TypeDesc}{kd:Kd}{k:qa}{u:Value}(ht:P.underlying t=some td)(hk:kdT P t=some kd)(hx:Rep C k u):∀ {es:List (qa×qa)} {ms:List MapEntry} {i:Nat} {r:Option (Nat×qa)},qy C es ms→yz kd k es i=some r →
  match r with
  |none=>Instr.findNow td u ms i=some none
  |some (j,v)=>∃m,i≤j∧es[j-i]?=some (k,v)∧ms[j-i]?=some m∧m.key=u∧Rep C v m.val∧Instr.findNow td u ms i=some (some (j,m.val))∧Instr.sameBits 10000 m.key u=true
 |_,_,i,r,.nil,h=>by
  simp only[yz,Option.some.injEq]at h
  subst h
  simp[Instr.findNow]
 |_,_,i,r,.cons k' v' es m ms h1 h2 h3,h=>by
  simp only[yz]at h
  split at h
  ·rename_i he
   cases h
   obtain⟨q1,q2⟩:=qvb ht hk hx h1 he
   obtain⟨rfl,rfl,q3⟩:=q2 rfl
   exact⟨m,Nat.le_refl _,by simp,by simp,rfl,h2,by simp[Instr.findNow,q1],q3⟩
  ·rename_i he
   obtain⟨q1,_⟩:=qvb ht hk hx h1 he
   have ih:=qhl ht hk hx h3 h
   cases r with
   |none=>simp only[Instr.findNow,q1];exact ih
   |some jv=>
    obtain⟨j,v⟩:=jv
    obtain⟨m2,k1,k2,k3,k4,k5,k6,k7⟩:=ih
    refine⟨m2,by omega,?_,?_,k4,k5,by simp only[Instr.findNow,q1];exact k6,k7⟩
    ·rw[show j-i=(j-(i+1))+1 from by omega];simpa using k2
    ·rw[show j-i=(j-(i+1))+1 from by omega];simpa using k3
  ·cases h
theorem qem {t:TypeId}{kd:Kd}(hk:kdT P t=some kd)(e:Bool)(v:Value):(Instr.checkKey e 10000 t v).run P w=.ok () w:=by
 rcases qrx hk with⟨_,k,hu⟩|⟨_,hu⟩|⟨_,hu⟩<;>(unfold Instr.checkKey;simp[run_underlying hu])
theorem qgi {t:TypeId}{td:TypeDesc}{u:Value}{ms:List MapEntry}{r:Option (Nat×Value)}(ht:P.underlying t=some td)(h:Instr.findNow td u ms 0=some r):(Instr.findKey t u ms).run P w=.ok r w:=by
 simp[Instr.findKey,run_underlying ht,h]
theorem qyo {t:TypeId}{kd:Kd}(hk:kdT P t=some kd):∃td,P.underlying t=some td:=by
 rcases qrx hk with⟨_,k,hu⟩|⟨_,hu⟩|⟨_,hu⟩<;>exact⟨_,hu⟩
theorem qpe (m:MInv P C ω w0 C0 hp w)(e:EnvRel C ω w w0.heap.size env a.tmps){t kt el:TypeId}{x y:Operand}{ok:Bool}{x' y':qh}{kd:Kd}{zv mv kv:qa}{r:Option (Nat×qa)}(ho:o.op=.lookup t x y ok)(ht:P.underlying t=some (.map kt el))(hkd:kdT P kt=some kd)(hz:jac P el=some zv)
  (h1:zq x=some x') (h2:zq y=some y') (e1:zc env x'=some mv) (e2:zc env y'=some kv)
  (hv:(mv=.nilmap∧r=none)∨∃b es,mv=.map b∧hp[b]?=some (.map es)∧yz kd kv es 0=some r):
  Val P C a o w (match r with
   |some (_,v)=>bif ok then .tup [v,.bool true]else v
   |none=>bif ok then .tup [zv,.bool false]else zv):=by
 have hkr:=zt e.rep h2 e2
 have hmr:=zt e.rep h1 e1
 obtain⟨td,htd⟩:=qyo hkd
 obtain⟨zval,hzr,hzv⟩:∃v,(∀w,(zeroValue el).run P w=.ok v w)∧Rep C zv v:=by
  unfold jac at hz
  split at hz
  ·rename_i i hi
   split at hz
   ·rename_i v hv
    exact⟨v,fun w=>by simp[zeroValue,typeInfo,hi,hv],qty C hz⟩
   ·cases hz
  ·cases hz
 have fin:∀ {ms:List MapEntry} {rv:Option (Nat×Value)},(a.eval x=.map none∧ms=[]∨∃q clock,a.eval x=.map (some q)∧w.heap[q]?=some (.map ⟨ms⟩ clock))→Instr.findNow td (a.eval y) ms 0=some rv →
   (execOp a.eval o).run P w=.ok (.value (if ok then .tuple #[(match rv with|some (_,v)=>v|none=>zval),.bool rv.isSome]else(match rv with|some (_,v)=>v|none=>zval))) w:=by
  intro ms rv hm hf
  have hfk:=qgi (w:=w) htd hf
  rcases hm with⟨hm,rfl⟩|⟨q,clock,hm,hq⟩
  ·cases rv<;>simp[execOp,ho,Instr.lookup,run_underlying ht,hm,qem hkd,hfk,hzr]
  ·cases rv<;>simp[execOp,ho,Instr.lookup,run_underlying ht,hm,qbu hq (by simp),qem hkd,hfk,hzr]
 rcases hv with⟨rfl,rfl⟩|⟨b,es,rfl,hb,hfe⟩
 ·generalize hmx:a.eval x=mx at hmr
  cases hmr
  refine⟨_,fin (ms:=[]) (rv:=none) (.inl ⟨hmx,rfl⟩) (by simp[Instr.findNow]),?_⟩
  cases ok with
  |true=>exact .tup _ _ (.cons _ _ _ _ hzv (.cons _ _ _ _ (.bool _) .nil))
  |false=>exact hzv
 ·generalize hmx:a.eval x=mx at hmr
  cases hmr with
  |map _ q hbq=>
   obtain⟨ents,clock,g1,g2⟩:=m.box b _ q hb hbq
   have hf:=qhl htd hkd hkr g2 hfe
   cases r with
   |none=>
    refine⟨_,fin (ms:=ents.toList) (rv:=none) (.inr ⟨q,clock,hmx,g1⟩) hf,?_⟩
    cases ok with
    |true=>exact .tup _ _ (.cons _ _ _ _ hzv (.cons _ _ _ _ (.bool _) .nil))
    |false=>exact hzv
   |some jv=>
    obtain⟨j,v⟩:=jv
    obtain⟨me,_,_,_,_,hrv,hfn,_⟩:=hf
    refine⟨_,fin (ms:=ents.toList) (rv:=some (j,me.val)) (.inr ⟨q,clock,hmx,g1⟩) hfn,?_⟩
    cases ok with
    |true=>exact .tup _ _ (.cons _ _ _ _ hrv (.cons _ _ _ _ (.bool _) .nil))
    |false=>exact hrv
theorem qy.upd {k v:qa}:∀ {es:List (qa×qa)} {ms:List MapEntry} {j:Nat} {m:MapEntry},qy C es ms→Rep C v m.val→(∀k',(es[j]?).map (·.1)=some k'→Rep C k' m.key)→qy C (qde es j v) (ms.set j m)
 |_,_,j,m,.nil,_,_=>by simp[qde];exact .nil
 |_,_,0,m,.cons k' v' es m' ms h1 h2 h3,hv,hk=>by
  simp only[qde,List.set_cons_zero]
  exact .cons _ _ _ _ _ (hk k' (by simp)) hv h3
 |_,_,j+1,m,.cons k' v' es m' ms h1 h2 h3,hv,hk=>by
  simp only[qde,List.set_cons_succ]
  exact .cons _ _ _ _ _ h1 h2 (qy.upd (k:=k) h3 hv (fun k' h=>hk k' (by simpa using h)))
theorem qy.push {k v:qa}{m:MapEntry}{es:List (qa×qa)}{ms:List MapEntry}(h:qy C es ms)(hk:Rep C k m.key)(hv:Rep C v m.val):qy C (es++[(k,v)]) (ms++[m]):=by
 induction h with
 |nil=>exact .cons _ _ _ _ _ hk hv .nil
 |cons k' v' es m' ms h1 h2 _ ih=>exact .cons _ _ _ _ _ h1 h2 ih
theorem qpz (m:MInv P C ω w0 C0 hp w)(e:EnvRel C ω w w0.heap.size env a.tmps){t kt el:TypeId}{x y z:Operand}{x' y' z':qh}{kd:Kd}{kv v:qa}{b:Nat}{es:List (qa×qa)}{h':j8}(ho:o.op=.mapUpdate t x y z∨o.op=.insert t x y z)(ht:P.underlying t=some (.map kt el))(hkd:kdT P kt=some kd)
  (h1:zq x=some x') (h2:zq y=some y') (h3:zq z=some z') (e1:zc env x'=some (.map b)) (e2:zc env y'=some kv) (e3:zc env z'=some v) (hb:hp[b]?=some (.map es))
  (hv:(∃i u,yz kd kv es 0=some (some (i,u))∧ym hp b (.map (qde es i v))=some h')∨(yz kd kv es 0=some none∧ym hp b (.map (es++[(kv,v)]))=some h')):
  ∃w',(execOp a.eval o).run P w=.ok .skip w'∧kg P C0 w0 C a.tmps d env ⟨.undef,false,none,h'⟩ undef w':=by
 have hkr:=zt e.rep h2 e2
 have hvr:=zt e.rep h3 e3
 have hmr:=zt e.rep h1 e1
 obtain⟨td,htd⟩:=qyo hkd
 generalize hmx:a.eval x=mx at hmr
 cases hmr with
 |map _ q hbq=>
  obtain⟨ents,clock,g1,g2⟩:=m.box b _ q hb hbq
  have hlt:=(m.lt b q hbq).1
  have done:∀(es':List (qa×qa)) (ms':Array MapEntry) (clock':Nat),qy C es' ms'.toList→ym hp b (.map es')=some h' →
    (execOp a.eval o).run P w=.ok .skip (qay w q (.map ms' clock'))→∃w',(execOp a.eval o).run P w=.ok .skip w'∧kg P C0 w0 C a.tmps d env ⟨.undef,false,none,h'⟩ undef w':=by
   intro es' ms' clock' hre hset hrun
   obtain rfl:=qes hset
   have hu:=qg0 (w:=w) (r:=q) (x:=.map ms' clock') hlt (by simp)
   exact⟨_,hrun,C,ω,Ctx.le_refl C,m.updBox hu hbq _ (fun _ _ _ _ _ h=>h) ⟨ms',clock',qfm hlt,hre⟩,e.updβ hu hbq,.undef,by simp⟩
  rcases hv with⟨i,u,hf,hset⟩|⟨hf,hset⟩
  ·obtain⟨me,_,k1,k2,k3,k4,k5,k6⟩:=qhl htd hkd hkr g2 hf
   have hfk:=qgi (w:=w) htd k5
   simp only[Nat.sub_zero]at k1 k2
   have hei:ents[i]?=some me:=by simpa using k2
   have hlen:i<ents.size:=(Array.getElem?_eq_some_iff.1 hei).1
   refine done (qde es i v) (ents.modify i fun e=>{ e with key:=a.eval y,val:=a.eval z }) clock ?_ hset ?_
   ·have:(ents.modify i fun e=>{ e with key:=a.eval y,val:=a.eval z }).toList=ents.toList.set i { me with key:=a.eval y,val:=a.eval z }:=by
     z8 List.ext_getElem?
     intro j
     rw[Array.getElem?_toList,Array.getElem?_modify,List.getElem?_set]
     by_cases hij:i=j
     ·subst hij
      have hgi:=(Array.getElem?_eq_some_iff.1 hei).2
      simp[hlen,hgi]
     ·simp[hij]
    rw[this]
    refine qy.upd (k:=kv) g2 hvr (fun k' hk'=>?_)
    rw[k1]at hk'
    cases hk'
    exact hkr
   ·have hset':=qdv (P:=P) (x:=.map (ents.modify i fun e=>{ e with key:=a.eval y,val:=a.eval z }) clock) g1 (by simp)
    have hstay:∀w:World,(Instr.keyThatStays (((ents[i]?).map (·.key)).getD (a.eval y)) (a.eval y)).run P w=.ok (a.eval y) w:=by
     intro w
     simp[Instr.keyThatStays,hei,k6]
    rcases ho with ho|ho<;>simp only[execOp,ho,Instr.mapUpdate,Sem.run_bind,run_underlying ht,Result.andThen_ok,hmx,qbu g1 (by simp),qem hkd,hfk,hstay,hset',Sem.run_pure]
  ·have hf':=qhl htd hkd hkr g2 hf
   have hfk:=qgi (w:=w) htd hf'
   refine done (es++[(kv,v)]) (ents.push { key:=a.eval y,val:=a.eval z,born:=clock }) (clock+1) ?_ hset ?_
   ·rw[Array.toList_push]
    exact g2.push hkr hvr
   ·have hset':=qdv (P:=P) (x:=.map (ents.push { key:=a.eval y,val:=a.eval z,born:=clock }) (clock+1)) g1 (by simp)
    rcases ho with ho|ho<;>simp only[execOp,ho,Instr.mapUpdate,Sem.run_bind,run_underlying ht,Result.andThen_ok,hmx,qbu g1 (by simp),qem hkd,hfk,hset',Sem.run_pure]
end
section
variable {P:Program}{C C0:Ctx}{ω:Nat→Option Loc}{w w' w0:World}{hp:j8}{env:Env}{a:Act}{o:Oper}{tmps:Array Value}{d:Loc}
theorem q05 {n sz len cap:Nat}{base:Option Addr}{cs:List Value}(hl:cs.length=n*sz)(h:∀ad,base=some ad→∀j v,cs[j]?=some v→w.cell? (ad.add j)=some v)(hn:base=none→n=0):
  (Builtin.firstCells sz n (.slice base len cap)).run P w=.ok cs.toArray w:=by
 cases base with
 |none=>
  have:cs=[]:=by
   have:=hn rfl
   subst this
   exact List.length_eq_zero_iff.1 (by simpa using hl)
  subst this
  exact run_firstCells_none _ _ _ _ _
 |some ad=>exact run_firstCells_some w _ _ _ _ _ cs hl (h ad rfl)
theorem jik (m:MInv P C ω w0 C0 hp w)(e:EnvRel C ω w w0.heap.size env a.tmps){c:Call}{t:TypeId}{ts:List TypeId}{el:TypeId}{x y:Operand}{x' y':qh}{sz b q len n:Nat}{vy:qa}{us:List qa}{cs cs':List (qa×Bool)}{h':j8}
  (ho:o.op=.call c) (hcb:c.callee=.builtin .copy) (hca:c.args.toList=[x,y]) (hct:c.argTypes.toList=t::ts) (ht:P.underlying t=some (.slice el)) (hn:yh P el=some sz)
  (h1:zq x=some x') (h2:zq y=some y') (e1:zc env x'=some (.ms b q len)) (e2:zc env y'=some vy) (hbc:yn hp b=some cs) (hsrc:qig sz len vy=some (n,us)) (hst:yj cs q us=some cs') (hul:us.length=n*sz) (hset:ym hp b (.cells cs')=some h'):
  ∃u w',(execOp a.eval o).run P w=.ok (.value u) w'∧kg P C0 w0 C a.tmps d env ⟨.int .i64 n,false,none,h'⟩ u w':=by
 obtain⟨r,cap,hr,hle,hq⟩:=(zt e.rep h1 e1).ms_inv
 have ry:=zt e.rep h2 e2
 unfold yj at hst
 cases hb:(Nat.ble (q+us.length) cs.length&&us.all ze)with
 |false=>simp[hb]at hst
 |true=>
  simp only[hb,cT,Option.some.injEq]at hst
  simp only[Bool.and_eq_true]at hb
  subst hst
  -- the source
  obtain⟨news,base,sl,sc,hy,hnews,hcells,hmin,hbase⟩:∃news base sl sc,a.eval y=.slice base sl sc∧RepL C us news∧(∀ad,base=some ad→∀j v,news[j]?=some v→w.cell? (ad.add j)=some v)∧Nat.min sl len=n∧(base=none→n=0):=by
   unfold qig at hsrc
   split at hsrc
   ·rename_i nn sy ys
    cases hk:(Nat.beq sz sy||ys.isEmpty)with
    |false=>simp[hk]at hsrc
    |true=>
     simp only[hk,cT,Option.some.injEq,Prod.mk.injEq]at hsrc
     obtain⟨rfl,rfl⟩:=hsrc
     generalize a.eval y=vv at ry
     cases ry with
     |lnil=>exact⟨[],none,0,0,rfl,by simpa using qp.nil,by simp,by simp[Nat.min_def],by simp⟩
     |lemp _ ad _=>exact⟨[],some ad,0,0,rfl,by simpa using qp.nil,by simp,by simp,by simp⟩
     |list _ _ r' o' cap' hl hrow=>
      have hc:RepC C r' ((ys.take len).flatMap qa.flat) o':=RepRow.cells (RepRow.take len hrow)
      obtain⟨vs,k1,k2⟩:=hc.vals
      refine⟨vs,some ⟨r',o',none⟩,ys.length,cap',rfl,k1,?_,rfl,by simp⟩
      intro ad had j v hj
      cases had
      rw[add_lit]
      exact m.know _ _ _ (k2 j v hj)
   ·cases hsrc
  have hone:=qc8 hnews (by simpa using hb.2)
  obtain⟨vs,te,hg,hfit,m',e'⟩:=q20 m e (qb2 hbc) hr hnews hone (Nat.le_of_ble_eq_true hb.1)
  obtain rfl:=qes hset
  have hfc:=q05 (P:=P) (w:=w) (n:=n) (sz:=sz) (len:=sl) (cap:=sc) (base:=base) (cs:=news) (by rw[hnews.length,hul]) hcells hbase
  have hstr:=run_storeCells_at (P:=P) r q te news 0 vs w hg (by simpa using hfit) hone
  simp only[Nat.add_zero]at hstr
  have hrun:(Builtin.copy_ c.argTypes o.type (c.args.map a.eval)).run P w=.ok (goInt n) (w.setRow r (vs.toList.take q++news++vs.toList.drop (q+news.length)).toArray):=by
   have ha:c.args.map a.eval=#[a.eval x,a.eval y]:=by
    z8 Array.ext';simp[hca]
   have hat:c.argTypes[0]?=some t:=by rw[←Array.getElem?_toList,hct];rfl
   rw[ha]
   simp only[Builtin.copy_,hat,List.getElem?_toArray,List.getElem?_cons_zero,List.getElem?_cons_succ,Sem.run_bind,run_underlying ht,Result.andThen_ok,hq,hy,Builtin.lenOf,Sem.run_pure,hmin,qah hn,hfc,hstr]
  refine⟨goInt n,_,?_,C,ω,Ctx.le_refl C,m',e',?_,by simp⟩
  ·have ha:Array.map a.eval c.args=#[a.eval x,a.eval y]:=by
    z8 Array.ext';simp[hca]
   rw[ha]at hrun
   simp[execOp,ho,resolve,hcb,ha,invoke,builtin,hrun]
  ·exact .int _ _
theorem qy.erase:∀ {es:List (qa×qa)} {ms:List MapEntry} (j:Nat),qy C es ms→qy C (es.eraseIdx j) (ms.eraseIdx j)
 |_,_,j,.nil=>by simpa using qy.nil
 |_,_,0,.cons k' v' es m' ms h1 h2 h3=>by simpa using h3
 |_,_,j+1,.cons k' v' es m' ms h1 h2 h3=>by simpa using .cons _ _ _ _ _ h1 h2 (qy.erase j h3)
theorem q7o (m:MInv P C ω w0 C0 hp w)(e:EnvRel C ω w w0.heap.size env a.tmps){c:Call}{t kt el:TypeId}{ts:List TypeId}{x y:Operand}{x' y':qh}{kd:Kd}{kv:qa}{b:Nat}{es:List (qa×qa)}{h':j8}{r:Option (Nat×qa)}
  (ho:o.op=.call c) (hcb:c.callee=.builtin .delete) (hca:c.args.toList=[x,y]) (hct:c.argTypes.toList=t::ts) (ht:P.underlying t=some (.map kt el)) (hkd:kdT P kt=some kd)
  (h1:zq x=some x') (h2:zq y=some y') (e1:zc env x'=some (.map b)) (e2:zc env y'=some kv) (hb:hp[b]?=some (.map es))
  (hf:yz kd kv es 0=some r) (hset:ym hp b (.map (q3s es r))=some h'):
  ∃u w',(execOp a.eval o).run P w=.ok (.value u) w'∧kg P C0 w0 C a.tmps d env ⟨.tup [],false,none,h'⟩ u w':=by
 have hkr:=zt e.rep h2 e2
 have hmr:=zt e.rep h1 e1
 obtain⟨td,htd⟩:=qyo hkd
 have ha:Array.map a.eval c.args=#[a.eval x,a.eval y]:=by
  z8 Array.ext';simp[hca]
 have hat:c.argTypes[0]?=some t:=by rw[←Array.getElem?_toList,hct];rfl
 generalize hmx:a.eval x=mx at hmr
 cases hmr with
 |map _ q hbq=>
  obtain⟨ents,clock,g1,g2⟩:=m.box b _ q hb hbq
  have hlt:=(m.lt b q hbq).1
  have done:∀(es':List (qa×qa)) (ms':Array MapEntry),qy C es' ms'.toList→ym hp b (.map es')=some h' →
    (Builtin.delete_ c.argTypes o.type #[.map (some q),a.eval y]).run P w=.ok (.tuple #[]) (qay w q (.map ms' clock))→∃u w',(execOp a.eval o).run P w=.ok (.value u) w'∧kg P C0 w0 C a.tmps d env ⟨.tup [],false,none,h'⟩ u w':=by
   intro es' ms' hre hset hrun
   obtain rfl:=qes hset
   have hu:=qg0 (w:=w) (r:=q) (x:=.map ms' clock) hlt (by simp)
   refine⟨.tuple #[],_,?_,C,ω,Ctx.le_refl C,m.updBox hu hbq _ (fun _ _ _ _ _ h=>h) ⟨ms',clock,qfm hlt,hre⟩,e.updβ hu hbq,.tup _ _ .nil,by simp⟩
   simp[execOp,ho,resolve,hcb,ha,hmx,invoke,builtin,hrun]
  have hfn:=qhl htd hkd hkr g2 hf
  cases r with
  |none=>
   have hfk:=qgi (w:=w) htd hfn
   refine done es ents g2 hset ?_
   have hset':=qdv (P:=P) (x:=.map ents clock) g1 (by simp)
   simp only[Builtin.delete_,hat,List.getElem?_toArray,List.getElem?_cons_zero,List.getElem?_cons_succ,Sem.run_bind,run_underlying ht,Result.andThen_ok,qbu g1 (by simp),qem hkd,hfk,hset',Sem.run_pure]
  |some jv=>
   obtain⟨j,v⟩:=jv
   obtain⟨me,_,k1,k2,k3,k4,k5,k6⟩:=hfn
   have hfk:=qgi (w:=w) htd k5
   refine done (es.eraseIdx j) (ents.eraseIdxIfInBounds j) ?_ hset ?_
   ·have:(ents.eraseIdxIfInBounds j).toList=ents.toList.eraseIdx j:=by simp
    rw[this];exact qy.erase j g2
   ·have hset':=qdv (P:=P) (x:=.map (ents.eraseIdxIfInBounds j) clock) g1 (by simp)
    simp only[Builtin.delete_,hat,List.getElem?_toArray,List.getElem?_cons_zero,List.getElem?_cons_succ,Sem.run_bind,run_underlying ht,Result.andThen_ok,qbu g1 (by simp),qem hkd,hfk,hset',Sem.run_pure]
end
section
variable {P:Program}{p:qt}{xc:XC}{C C0:Ctx}{ω:Nat→Option Loc}{w w0:World}{hp:j8}{env:Env}{a:Act}{o:Oper}{d:Loc}{h:qb}{md:jc}{r h0:Nat}{dst:Option Nat}{al:Option (List Nat)}{aop:qw}{res:qq}
def qad (P:Program)(C C0:Ctx)(w0:World)(a:Act)(d:Loc)(env:Env)(o:Oper)(w:World)(res:qq):Prop:=
 (∃v w',(execOp a.eval o).run P w=.ok (.value v) w'∧kg P C0 w0 C a.tmps d env res v w') ∨
 (∃w',(execOp a.eval o).run P w=.ok .skip w'∧kg P C0 w0 C a.tmps d env res undef w') ∨
 (∃f args,(execOp a.eval o).run P w=.ok (.enter f args) w∧CallsIn Fence.wide 0 P f args w fun e w'=>∃v,e=.returned v∧kg P C0 w0 C a.tmps d env res v w') ∨
 (∃l f tmps assign body,(execOp a.eval o).run P w=.ok (.round l f tmps assign body) w∧RoundIn Fence.wide 0 P l f tmps assign body w fun e w'=>∃v,e=.returned v∧kg P C0 w0 C a.tmps d env res v w')
theorem yd (m:MInv P C ω w0 C0 hp w)(e:EnvRel C ω w w0.heap.size env a.tmps){x:qa}(hv:Val P C a o w x):qad P C C0 w0 a d env o w ⟨x,false,none,hp⟩:=by
 obtain⟨v,h1,h2⟩:=hv
 exact .inl ⟨v,w,h1,q1v m e h2⟩
theorem zx {x:qa}(hs:val hp x=some res):res=⟨x,false,none,hp⟩:=by simpa[val]using hs.symm
theorem qd0 {x:Option qa}(hs:qcj hp x=some res):∃v,x=some v∧res=⟨v,false,none,hp⟩:=by
 cases x with
 |none=>simp[qcj]at hs
 |some v=>exact⟨v,rfl,by simpa[qcj]using hs.symm⟩
theorem qhk (m:MInv P C ω w0 C0 hp w)(e:EnvRel C ω w w0.heap.size env a.tmps){x:Operand}(ho:o.op=.move x∨o.op=.assign x){y:qh}(hc:zq x=some y)(hs:zh env hp (.move y)=some res):qad P C C0 w0 a d env o w res:=by
 simp only[zh]at hs
 obtain⟨v,hv,rfl⟩:=qd0 hs
 exact yd m e (jf2 e.rep ho hc hv)
theorem q3o (m:MInv P C ω w0 C0 hp w)(e:EnvRel C ω w w0.heap.size env a.tmps){s:Nat}(ho:o.op=.move (.tmp s)∨o.op=.assign (.tmp s))(hs:zh env hp (.take s)=some res):qad P C C0 w0 a d env o w res:=by
 simp only[zh]at hs
 split at hs
 ·rename_i v ow hl
  cases hs
  exact .inl (jdh m e ho hl)
 ·cases hs
theorem jhf (m:MInv P C ω w0 C0 hp w)(e:EnvRel C ω w w0.heap.size env a.tmps){x:Operand}(ho:o.op=.move x)(hc:cOp P h md r dst (.move x)=some aop)(hs:j9 p xc h0 al env hp aop=some res):qad P C C0 w0 a d env o w res:=by
 simp only[cOp]at hc
 split at hc
 ·rename_i s ht
  cases hc
  unfold q6f at ht
  split at ht
  ·split at ht
   ·cases ht;exact q3o m e (.inl ho) hs
   ·cases ht
  ·cases ht
 ·obtain⟨y,hy,rfl⟩:=Option.map_eq_some_iff.1 hc
  exact qhk m e (.inl ho) hy hs
theorem q8a (m:MInv P C ω w0 C0 hp w)(e:EnvRel C ω w w0.heap.size env a.tmps){x:Operand}(ho:o.op=.assign x)(hc:cOp P h md r dst (.assign x)=some aop)(hs:j9 p xc h0 al env hp aop=some res):qad P C C0 w0 a d env o w res:=by
 cases x with
 |tmp s=>simp only[cOp]at hc;cases hc;exact q3o m e (.inr ho) hs
 |const v=>simp only[cOp]at hc;obtain⟨y,hy,rfl⟩:=Option.map_eq_some_iff.1 hc;exact qhk m e (.inr ho) hy hs
 |func v=>simp only[cOp]at hc;obtain⟨y,hy,rfl⟩:=Option.map_eq_some_iff.1 hc;exact qhk m e (.inr ho) hy hs
 |global v=>simp only[cOp]at hc;obtain⟨y,hy,rfl⟩:=Option.map_eq_some_iff.1 hc;exact qhk m e (.inr ho) hy hs
theorem jgs (m:MInv P C ω w0 C0 hp w)(e:EnvRel C ω w w0.heap.size env a.tmps){c x y:Operand}(ho:o.op=.pick c x y)(hc:cOp P h md r dst (.pick c x y)=some aop)(hs:j9 p xc h0 al env hp aop=some res):qad P C C0 w0 a d env o w res:=by
 simp only[cOp]at hc
 split at hc
 ·rename_i c' x' y' h1 h2 h3
  cases hc
  simp only[j9,zh]at hs
  split at hs
  ·rename_i b e1
   split at hs
   ·rename_i u v e2 e3
    obtain rfl:=zx hs
    exact yd m e (je9 e.rep ho h1 h2 h3 e1 e2 e3)
   ·cases hs
  ·cases hs
 ·cases hc
theorem q2a (m:MInv P C ω w0 C0 hp w)(e:EnvRel C ω w w0.heap.size env a.tmps){x:Operand}(ho:o.op=.nilCheck x)(hc:cOp P h md r dst (.nilCheck x)=some aop)(hs:j9 p xc h0 al env hp aop=some res):qad P C C0 w0 a d env o w res:=by
 simp only[cOp]at hc
 obtain⟨y,hy,rfl⟩:=Option.map_eq_some_iff.1 hc
 simp only[j9,zh]at hs
 split at hs
 ·rename_i b q hv;obtain rfl:=zx hs;exact yd m e (qrw e.rep ho hy hv (.inl ⟨_,_,rfl⟩))
 ·rename_i z hv;obtain rfl:=zx hs;exact yd m e (qrw e.rep ho hy hv (.inr ⟨_,rfl⟩))
 ·rename_i f u v hv
  obtain rfl:=zx hs
  have hr:=zt e.rep hy hv
  refine yd m e ⟨a.eval x,?_,hr⟩
  generalize hx:a.eval x=ev at hr
  cases hr with
  |fn f f' u v as bs hf ha hb=>
   simp only[RepFn]at hf
   subst hf
   simp[execOp,ho,hx]
 ·cases hs
theorem jt8 (m:MInv P C ω w0 C0 hp w)(e:EnvRel C ω w w0.heap.size env a.tmps){op:UnOp}{t:TypeId}{x:Operand}(ho:o.op=.unOp op t x)(hc:cOp P h md r dst (.unOp op t x)=some aop)(hs:j9 p xc h0 al env hp aop=some res):qad P C C0 w0 a d env o w res:=by
 simp only[cOp]at hc
 obtain⟨y,hy,rfl⟩:=Option.map_eq_some_iff.1 hc
 simp only[j9,zh]at hs
 split at hs
 ·rename_i v hv
  obtain⟨u,hu,rfl⟩:=qd0 hs
  exact yd m e (jpo e.rep ho hy hv hu)
 ·cases hs
theorem ji8 (m:MInv P C ω w0 C0 hp w)(e:EnvRel C ω w w0.heap.size env a.tmps){s t:TypeId}{x:Operand}(ho:o.op=.convert s t x)(hc:cOp P h md r dst (.convert s t x)=some aop)(hs:j9 p xc h0 al env hp aop=some res):qad P C C0 w0 a d env o w res:=by
 simp only[cOp]at hc
 split at hc
 ·rename_i k0 k u1 u2
  obtain⟨y,hy,rfl⟩:=Option.map_eq_some_iff.1 hc
  simp only[j9,zh]at hs
  split at hs
  ·rename_i k1 n hv
   obtain rfl:=zx hs
   exact yd m e (jdo e.rep ho u1 u2 hy hv)
  ·cases hs
 ·rename_i u1 u2
  obtain⟨y,hy,rfl⟩:=Option.map_eq_some_iff.1 hc
  simp only[j9,zh]at hs
  split at hs
  ·rename_i l hv
   obtain rfl:=zx hs
   exact yd m e (q5j e.rep ho u1 u2 hy hv ⟨_,rfl⟩)
  ·rename_i k1 n hv
   obtain rfl:=zx hs
   exact yd m e (q4b e.rep ho u1 u2 hy hv)
  ·cases hs
 ·rename_i k0 u1 u2
  obtain⟨y,hy,rfl⟩:=Option.map_eq_some_iff.1 hc
  simp only[j9,zh]at hs
  split at hs
  ·rename_i l hv
   obtain rfl:=zx hs
   exact yd m e (q3x e.rep ho u1 u2 hy hv ⟨_,rfl⟩)
  ·rename_i k1 n hv
   obtain rfl:=zx hs
   exact yd m e (q50 e.rep ho u1 u2 hy hv)
  ·cases hs
 ·cases hc
theorem q6b {ag:Bool}{n:Nat}{y:qh}(hs:zh env hp (.vload ag n y)=some res):qaf h0 al env hp (.load ag n y)=some res:=by
 simp only[zh]at hs
 simp only[qaf]
 split at hs
 ·rename_i v hv
  rw[hv];exact hs
 ·cases hs
theorem qz3 {g:Nat}:∀ {l:List (String×List Int)} {cs:List Int},qvw P g l=some cs→∃n,(n,cs)∈l∧P.globalNamed n=some g
 | [],_,h=>by simp[qvw]at h
 |(n,ds)::l,cs,h=>by
  simp only[qvw]at h
  split at h
  ·rename_i hn
   cases h
   exact⟨n,List.mem_cons_self ..,by simpa using hn⟩
  ·obtain⟨n',h1,h2⟩:=qz3 h
   exact⟨n',List.mem_cons_of_mem _ h1,h2⟩
theorem jb6 {ns:List Int}:RepL C (ns.map (qa.int .i64)) (ns.map (Value.int .i64)):=by
 induction ns with
 |nil=>exact .nil
 |cons n ns ih=>exact .cons _ _ _ _ (.int _ _) ih
theorem jb7 (m:MInv P C ω w0 C0 hp w)(e:EnvRel C ω w w0.heap.size env a.tmps){t:TypeId}{g:Nat}(ho:o.op=.load t (.global g))(hc:cOp P h md r dst (.load t (.global g))=some aop)(hs:j9 p xc h0 al env hp aop=some res):qad P C C0 w0 a d env o w res:=by
 have hc:q09 P t g=some aop:=hc
 unfold q09 at hc
 split at hc
 ·rename_i cs n hf hg hn
  split at hc
  ·rename_i hl
   cases hc
   have hl:cs.length=n:=by simpa using hl
   simp only[j9,zh,zc]at hs
   obtain⟨u,hu,rfl⟩:=qd0 hs
   cases hu
   obtain⟨nm,hmem,hnm⟩:=qz3 hf
   have ht:=(m.tabs g (.inr (.inr ⟨_,hmem,hnm⟩))).2.2.2 _ hmem hnm
   have hcell:∀j v,(cs.map (Value.int .i64))[j]?=some v→w.cell? ⟨g,0+j,none⟩=some v:=by
    intro j v hj
    rw[List.getElem?_map,Option.map_eq_some_iff]at hj
    obtain⟨i,hi,rfl⟩:=hj
    rw[Nat.zero_add]
    exact ht j i hi
   have hload:=qgo (P:=P) (w:=w) hg hn (vs:=cs.map (Value.int .i64)) (by simpa using hl) hcell
   refine yd m e ⟨.agg ⟨cs.map (Value.int .i64)⟩,?_,.agg _ _ jb6⟩
   have hev:a.eval (.global g)=.pointer (some ⟨g,0,none⟩):=rfl
   simp[execOp,ho,Instr.loadAt,hev,Instr.sureAddr,hload]
  ·cases hc
 ·cases hc
theorem jef (m:MInv P C ω w0 C0 hp w)(e:EnvRel C ω w w0.heap.size env a.tmps){t:TypeId}{x:Operand}(ho:o.op=.load t x)(hc:cOp P h md r dst (.load t x)=some aop)(hs:j9 p xc h0 al env hp aop=some res):qad P C C0 w0 a d env o w res:=by
 have key:∀ {ag:Bool} {n:Nat} {y:qh},qak P t=some ag→yh P t=some n→(ag=false→n=1)→zq x=some y→qaf h0 al env hp (.load ag n y)=some res→qad P C C0 w0 a d env o w res:=by
  intro ag n y hg hn h1n hy hs
  simp only[qaf]at hs
  split at hs
  ·rename_i b q hv
   cases hk:yv h0 al b with
   |false=>simp[hk]at hs
   |true=>
    simp only[hk,cT]at hs
    split at hs
    ·rename_i cs hcs
     split at hs
     ·rename_i us hus
      cases ag with
      |true=>
       simp only[cT]at hs
       obtain rfl:=zx hs
       exact yd m e (qul m e.rep ho hg hn h1n hy hv (.inl ⟨b,q,cs,us,rfl,hcs,hus,.inl ⟨rfl,rfl⟩⟩))
      |false=>
       simp only[cond_false]at hs
       split at hs
       ·obtain rfl:=zx hs
        exact yd m e (qul m e.rep ho hg hn h1n hy hv (.inl ⟨b,q,cs,_,rfl,hcs,hus,.inr ⟨rfl,rfl⟩⟩))
       ·cases hs
     ·cases hs
    ·cases hs
  ·rename_i z hv
   cases hk:(Bool.xor ag z.isAgg||!(Nat.beq z.flat.length n))with
   |true=>simp[hk]at hs
   |false=>
    simp only[hk,cond_false]at hs
    obtain rfl:=zx hs
    simp only[Bool.or_eq_false_iff,Bool.not_eq_false']at hk
    exact yd m e (qul m e.rep ho hg hn h1n hy hv (.inr ⟨rfl,hk.1,Nat.eq_of_beq_eq_true hk.2⟩))
  ·rename_i b ver q hv
   cases hk:qgl h0 al b with
   |false=>simp[hk]at hs
   |true=>
    simp only[hk,cT]at hs
    split at hs
    ·rename_i sz ver' xs hbx
     cases hk2:(Nat.beq ver ver'&&Nat.ble (q+n) (xs.flatMap qa.flat).length)with
     |false=>rw[hk2]at hs;cases hs
     |true=>
      rw[hk2]at hs
      simp only[cT]at hs
      simp only[Bool.and_eq_true]at hk2
      obtain rfl:=Nat.eq_of_beq_eq_true hk2.1
      have hl:=Nat.le_of_ble_eq_true hk2.2
      cases ag with
      |true=>
       simp only[cT]at hs
       obtain rfl:=zx hs
       exact yd m e (q0m m e.rep ho hg hn hy hv hbx hl (.inl ⟨rfl,rfl⟩))
      |false=>
       simp only[cond_false]at hs
       split at hs
       ·rename_i z hz
        obtain rfl:=zx hs
        exact yd m e (q0m m e.rep ho hg hn hy hv hbx hl (.inr ⟨rfl,hz⟩))
       ·cases hs
    ·cases hs
  ·cases hs
 by_cases hx:∃g,x=.global g
 ·obtain⟨g,rfl⟩:=hx
  exact jb7 m e ho hc hs
 have hc:(match qak P t,yh P t,zq x with
  |some false,some 1,some x=>if(dst.map (h.takes.contains ·)).getD false then some (qw.loadTake ((dst.bind fun d=>h.offs.find? fun y=>y.1 == d).map (·.2)) x)else some (bif (dst.map (h.vl.contains ·)).getD false then .vload false 1 x else .load false 1 x)
  |some true,some n,some x=>some (bif (dst.map (h.vl.contains ·)).getD false then .vload true n x else .load true n x)
  |_,_,_=>none)=some aop:=by
  cases x with
  |global g=>exact absurd ⟨g,rfl⟩ hx
  |_=>exact hc
 split at hc
 ·rename_i y hg hn hy
  split at hc
  ·cases hc
   simp only[j9,zj]at hs
   split at hs
   ·rename_i b q hv
    generalize (yv h0 al b&&qim _ q)=kk at hs
    cases kk with
    |false=>simp at hs
    |true=>
     simp only[cT]at hs
     split at hs
     ·rename_i cs hcs
      split at hs
      ·rename_i v ow hq
       split at hs
       ·rename_i h' hset
        cases hs
        exact .inl (q11 m e ho hg hy hv hcs hq hset)
       ·cases hs
      ·cases hs
     ·cases hs
   ·cases hs
  ·cases hc
   generalize (dst.map (h.vl.contains ·)).getD false=bb at hs
   cases bb with
   |false=>exact key hg hn (fun _=>rfl) hy hs
   |true=>exact key hg hn (fun _=>rfl) hy (q6b hs)
 ·rename_i n y hg hn hy
  cases hc
  generalize (dst.map (h.vl.contains ·)).getD false=bb at hs
  cases bb with
  |false=>exact key hg hn (by simp) hy hs
  |true=>exact key hg hn (by simp) hy (q6b hs)
 ·cases hc
theorem jcx (m:MInv P C ω w0 C0 hp w)(e:EnvRel C ω w w0.heap.size env a.tmps){t:TypeId}{x y:Operand}(ho:o.op=.store t x y)(hvd:aop.vdst=none)(hc:cOp P h md r dst (.store t x y)=some aop)(hs:j9 p xc h0 al env hp aop=some res):qad P C C0 w0 a d env o w res:=by
 simp only[cOp]at hc
 split at hc
 ·rename_i n x' y' hn h1 h2
  cases hvt:q8z h x' with
  |some s=>rw[hvt]at hc;simp only[Option.some.injEq]at hc;subst hc;simp[qw.vdst]at hvd
  |none=>
  rw[hvt]at hc
  simp only[Option.some.injEq]at hc
  subst hc
  simp only[j9,zj]at hs
  split at hs
  ·rename_i b q v e1 e2
   cases hk:yv h0 al b with
   |false=>simp[hk]at hs
   |true=>
    simp only[hk,cT]at hs
    split at hs
    ·rename_i cs hcs
     split at hs
     ·rename_i s hown
      cases hb:(Nat.beq n 1&&v.isList&&Nat.blt q cs.length)with
      |false=>simp[hb]at hs
      |true=>
       simp only[hb,cT]at hs
       simp only[Bool.and_eq_true]at hb
       obtain⟨⟨hb1,hb2⟩,hb3⟩:=hb
       obtain rfl:=Nat.eq_of_beq_eq_true hb1
       split at hs
       ·rename_i h' hset
        cases hs
        exact .inr (.inl (q2o m e ho hn h1 h2 e1 e2 hcs hb2 (Nat.blt_eq.mp hb3) hown hset))
       ·cases hs
     ·cases hb:Nat.beq v.flat.length n with
      |false=>simp[hb]at hs
      |true=>
       simp only[hb,cT]at hs
       split at hs
       ·rename_i cs' hst
        split at hs
        ·rename_i h' hset
         obtain rfl:=zx hs
         exact .inr (.inl (jc2 m e ho hn h1 h2 e1 e2 hcs (Nat.eq_of_beq_eq_true hb) hst hset))
        ·cases hs
       ·cases hs
    ·cases hs
  ·cases hs
 ·cases hc
theorem jck {P:Program}{t:TypeId}{e:TypeId}(h:jfs P t=some e):∃sz,qan P t=some [.nilptr,.list true sz []]:=by
 unfold jfs at h
 split at h
 ·split at h
  ·split at h
   ·split at h
    ·rename_i sz h1 h2
     exact⟨_,h2⟩
    ·cases h
   ·cases h
  ·cases h
 ·cases h
theorem jcf (m:MInv P C ω w0 C0 hp w)(e:EnvRel C ω w w0.heap.size env a.tmps){t:TypeId}(ho:o.op=.alloc t)(hc:cOp P h md r dst (.alloc t)=some aop)(hs:j9 p xc h0 al env hp aop=some res):qad P C C0 w0 a d env o w res:=by
 simp only[cOp]at hc
 split at hc
 ·rename_i e' he
  cases hc
  obtain⟨sz,hz⟩:=jck he
  simp only[j9,zj]at hs
  split at hs
  ·rename_i h' hn
   obtain rfl:=zx hs
   exact .inl (jlg m e ho hz hn)
  ·cases hs
 generalize (dst.map (h.vl.contains ·)).getD false=bb at hc
 cases bb with
 |true=>
  simp only[cT]at hc
  split at hc
  ·rename_i z hz
   cases hb:z.all ze with
   |false=>rw[hb]at hc;cases hc
   |true=>
    rw[hb]at hc
    simp only[cT,Option.some.injEq]at hc
    subst hc
    simp only[j9,zh,Option.some.injEq]at hs
    subst hs
    exact .inl (q75 m e ho hz)
  ·cases hc
 |false=>
 simp only[cond_false]at hc
 obtain⟨z,hz,rfl⟩:=Option.map_eq_some_iff.1 hc
 simp only[j9,zj]at hs
 cases hb:z.all ze with
 |false=>simp[hb]at hs
 |true=>
  simp only[hb,cT]at hs
  split at hs
  ·rename_i h' hn
   obtain rfl:=zx hs
   exact .inl (jas m e ho hz (by simpa using hb) hn)
  ·cases hs
theorem jl4 (m:MInv P C ω w0 C0 hp w)(e:EnvRel C ω w w0.heap.size env a.tmps){t:TypeId}{x:Operand}(ho:o.op=.box t x)(hc:cOp P h md r dst (.box t x)=some aop)(hs:j9 p xc h0 al env hp aop=some res):qad P C C0 w0 a d env o w res:=by
 simp only[cOp]at hc
 split at hc
 ·rename_i n x' hn h1
  cases hc
  generalize (dst.map (h.vl.contains ·)).getD false=bb at hs
  cases bb with
  |true=>
   simp only[cT,j9,zh]at hs
   split at hs
   ·rename_i v hv
    cases hb:(Nat.beq v.flat.length n&&v.flat.all ze)with
    |false=>simp[hb]at hs
    |true=>
     simp only[hb,cT]at hs
     simp only[Bool.and_eq_true]at hb
     obtain rfl:=zx hs
     exact .inl (jf1 m e ho h1 hv hb.2)
   ·cases hs
  |false=>
   simp only[cond_false]at hs
   simp only[j9,zj]at hs
   split at hs
   ·rename_i v hv
    cases hb:(Nat.beq v.flat.length n&&v.flat.all ze)with
    |false=>simp[hb]at hs
    |true=>
     simp only[hb,cT]at hs
     simp only[Bool.and_eq_true]at hb
     split at hs
     ·rename_i h' hn'
      obtain rfl:=zx hs
      exact .inl (jmi m e ho h1 hv hb.2 hn')
     ·cases hs
   ·cases hs
 ·cases hc
theorem q5y (m:MInv P C ω w0 C0 hp w)(e:EnvRel C ω w w0.heap.size env a.tmps){i:Nat}{x:Operand}(ho:o.op=.extract x i)(hc:cOp P h md r dst (.extract x i)=some aop)(hs:j9 p xc h0 al env hp aop=some res):qad P C C0 w0 a d env o w res:=by
 simp only[cOp]at hc
 obtain⟨y,hy,rfl⟩:=Option.map_eq_some_iff.1 hc
 simp only[j9,zh]at hs
 split at hs
 ·rename_i vs hv
  obtain⟨u,hu,rfl⟩:=qd0 hs
  exact yd m e (q5c e.rep ho hy hv hu)
 ·cases hs
theorem q4u (m:MInv P C ω w0 C0 hp w)(e:EnvRel C ω w w0.heap.size env a.tmps){f:Fn}{xs ys:Array Operand}(ho:o.op=.makeFunc f xs ys)(hc:cOp P h md r dst (.makeFunc f xs ys)=some aop)(hs:j9 p xc h0 al env hp aop=some res):qad P C C0 w0 a d env o w res:=by
 simp only[cOp]at hc
 split at hc
 ·split at hc
  ·rename_i k xs' ys' h1 h2
   cases hc
   simp only[j9,zh]at hs
   split at hs
   ·rename_i us vs e1 e2
    obtain rfl:=zx hs
    exact yd m e (q8t e.rep ho h1 h2 e1 e2)
   ·cases hs
  ·cases hc
 ·cases hc
theorem q48 (m:MInv P C ω w0 C0 hp w)(e:EnvRel C ω w w0.heap.size env a.tmps){t:TypeId}{x:Option Operand}(ho:o.op=.makeMap t x)(hc:cOp P h md r dst (.makeMap t x)=some aop)(hs:j9 p xc h0 al env hp aop=some res):qad P C C0 w0 a d env o w res:=by
 cases x with
 |some x=>simp[cOp]at hc
 |none=>
  simp only[cOp]at hc
  split at hc
  ·cases hc
   simp only[j9,zj]at hs
   split at hs
   ·rename_i h' hn
    obtain rfl:=zx hs
    exact .inl (jbp m e ho hn)
   ·cases hs
  ·cases hc
theorem jc1 (m:MInv P C ω w0 C0 hp w)(e:EnvRel C ω w w0.heap.size env a.tmps){t:TypeId}{x:Operand}(ho:o.op=.range t x)(hc:cOp P h md r dst (.range t x)=some aop)(hs:j9 p xc h0 al env hp aop=some res):qad P C C0 w0 a d env o w res:=by
 simp only[cOp]at hc
 split at hc
 ·rename_i ht
  obtain⟨y,hy,rfl⟩:=Option.map_eq_some_iff.1 hc
  simp only[j9,zj]at hs
  split at hs
  ·rename_i s hv
   split at hs
   ·rename_i h' hn
    obtain rfl:=zx hs
    exact .inl (q7b m e ho ht hy hv hn)
   ·cases hs
  ·cases hs
 ·cases hc
theorem jg8 (m:MInv P C ω w0 C0 hp w)(e:EnvRel C ω w w0.heap.size env a.tmps){x:Operand}{b:Bool}(ho:o.op=.next x b)(hc:cOp P h md r dst (.next x b)=some aop)(hs:j9 p xc h0 al env hp aop=some res):qad P C C0 w0 a d env o w res:=by
 cases b with
 |false=>simp[cOp]at hc
 |true=>
  simp only[cOp]at hc
  obtain⟨y,hy,rfl⟩:=Option.map_eq_some_iff.1 hc
  simp only[j9,zj]at hs
  split at hs
  ·rename_i b hv
   cases hk:yv h0 al b with
   |false=>simp[hk]at hs
   |true=>
    simp only[hk,cT]at hs
    split at hs
    ·rename_i s pos hb
     obtain⟨k1,k2⟩:=jaw (d:=d) m e ho hy hv hb
     cases hp:Nat.blt pos s.length with
     |true=>
      simp only[hp,cT]at hs
      split at hs
      ·rename_i h' hset
       obtain rfl:=zx hs
       exact .inl (k1 (Nat.blt_eq.mp hp) h' hset)
      ·cases hs
     |false=>
      simp only[hp,cond_false]at hs
      obtain rfl:=zx hs
      exact .inl (k2 (fun h=>by rw[Nat.blt_eq.mpr h]at hp;cases hp))
    ·cases hs
  ·cases hs
theorem q9v (m:MInv P C ω w0 C0 hp w)(e:EnvRel C ω w w0.heap.size env a.tmps){t:TypeId}{x y:Operand}{ok:Bool}(ho:o.op=.lookup t x y ok)(hc:cOp P h md r dst (.lookup t x y ok)=some aop)(hs:j9 p xc h0 al env hp aop=some res):qad P C C0 w0 a d env o w res:=by
 simp only[cOp]at hc
 split at hc
 ·rename_i kt el ht
  split at hc
  ·rename_i kd z x' y' hkd hz h1 h2
   cases hc
   simp only[j9,qaf]at hs
   split at hs
   ·rename_i b kv e1 e2
    cases hk:yv h0 al b with
    |false=>simp[hk]at hs
    |true=>
     simp only[hk,cT]at hs
     split at hs
     ·rename_i es hb
      split at hs
      ·rename_i i v hf
       obtain rfl:=zx hs
       exact yd m e (qpe m e ho ht hkd hz h1 h2 e1 e2 (.inr ⟨b,es,rfl,hb,hf⟩))
      ·rename_i hf
       obtain rfl:=zx hs
       exact yd m e (qpe m e ho ht hkd hz h1 h2 e1 e2 (.inr ⟨b,es,rfl,hb,hf⟩))
      ·cases hs
     ·cases hs
   ·rename_i kv e1 e2
    obtain rfl:=zx hs
    exact yd m e (qpe m e ho ht hkd hz h1 h2 e1 e2 (.inl ⟨rfl,rfl⟩))
   ·cases hs
  ·cases hc
 ·cases hc
theorem qpy (m:MInv P C ω w0 C0 hp w)(e:EnvRel C ω w w0.heap.size env a.tmps){t:TypeId}{x y z:Operand}(ho:o.op=.mapUpdate t x y z∨o.op=.insert t x y z)(hc:cOp P h md r dst (.mapUpdate t x y z)=some aop)(hs:j9 p xc h0 al env hp aop=some res):qad P C C0 w0 a d env o w res:=by
 simp only[cOp]at hc
 split at hc
 ·rename_i kt el ht
  split at hc
  ·rename_i kd x' y' z' hkd h1 h2 h3
   cases hc
   simp only[j9,zj]at hs
   split at hs
   ·rename_i b kv v e1 e2 e3
    cases hk:yv h0 al b with
    |false=>simp[hk]at hs
    |true=>
     simp only[hk,cT]at hs
     split at hs
     ·rename_i es hb
      split at hs
      ·rename_i i u hf
       split at hs
       ·rename_i h' hset
        obtain rfl:=zx hs
        exact .inr (.inl (qpz m e ho ht hkd h1 h2 h3 e1 e2 e3 hb (.inl ⟨i,u,hf,hset⟩)))
       ·cases hs
      ·rename_i hf
       cases hl:Nat.ble es.length 1073741824 with
       |false=>simp[hl]at hs
       |true=>
        simp only[hl,cT]at hs
        split at hs
        ·rename_i h' hset
         obtain rfl:=zx hs
         exact .inr (.inl (qpz m e ho ht hkd h1 h2 h3 e1 e2 e3 hb (.inr ⟨hf,hset⟩)))
        ·cases hs
      ·cases hs
     ·cases hs
   ·cases hs
  ·cases hc
 ·cases hc
end
section
variable {P:Program}{p:qt}{xc:XC}{C C0:Ctx}{ω:Nat→Option Loc}{w w0:World}{hp:j8}{env:Env}{a:Act}{o:Oper}{d:Loc}{h:qb}{md:jc}{r h0:Nat}{dst:Option Nat}{al:Option (List Nat)}{aop:qw}{res:qq}
theorem qbo (w:World){d:Nat}{t:TypeId}{x y:Value}{b:Bool}{u:TypeDesc}(h:(∃e,u=.slice e∧y=.slice none 0 0∧∃q l c,x=.slice q l c∧b=q.isNone)∨(∃e,u=.pointer e∧y=.pointer none∧∃q,x=.pointer q∧b=q.isNone) ∨
  (∃k e,u=.map k e∧y=.map none∧∃q,x=.map q∧b=q.isNone)∨(∃k e v,u=.func k e v∧y=.nilFunc∧((x=.nilFunc∧b=true)∨∃f i j,x=.func f i j∧b=false))) (ht:P.underlying t=some u):
  (Op.equalIn (d+1) t x y).run P w=.ok b w:=by
 rcases h with⟨e,rfl,rfl,q,l,c,rfl,rfl⟩|⟨e,rfl,rfl,q,rfl,rfl⟩|⟨k,e,rfl,rfl,q,rfl,rfl⟩|⟨k,e,v,rfl,rfl,⟨rfl,rfl⟩|⟨f,i,j,rfl,rfl⟩⟩
 ·cases q<;>simp[Op.equalIn,run_underlying ht]
 ·cases q<;>simp[Op.equalIn,run_underlying ht]
 ·cases q<;>simp[Op.equalIn,run_underlying ht]
 ·simp[Op.equalIn,run_underlying ht]
 ·simp[Op.equalIn,run_underlying ht]
theorem qfa (m:MInv P C ω w0 C0 hp w)(e:EnvRel C ω w w0.heap.size env a.tmps){op:BinOp}{t u:TypeId}{x y:Operand}{neq b:Bool}{c:Value}(ho:o.op=.binOp op t x y u)(hop:op=if neq then .neq else .eql)(hy:a.eval y=c)
  (hne:(∀k n,a.eval x≠.int k n)∧(∀s,a.eval x≠.string s)∧(∀k n,a.eval x≠.float k n)∧(∀k n m,a.eval x≠.complex k n m)) (hag:∀cs,a.eval x≠.agg cs) (hif:a.eval x≠.nilIface)
  (hq:(Op.equal t (a.eval x) c).run P w=.ok b w) {z:Bool} (hz:z=bif neq then !b else b):qad P C C0 w0 a d env o w ⟨.bool z,false,none,hp⟩:=by
 subst hz
 exact yd m e (jbw ho hop hy hne hag hif hq)
theorem qlu (m:MInv P C ω w0 C0 hp w)(e:EnvRel C ω w w0.heap.size env a.tmps){op:BinOp}{t u:TypeId}{x y:Operand}{y':qh}{neq:Bool}{k:Nat}{c:Value}(ho:o.op=.binOp op t x y u)(hop:op=if neq then .neq else .eql)(hx:zq x=some y')(hy:y=.const c)
  (hk:(k=0∧(∃el,P.underlying t=some (.slice el))∧c=.slice none 0 0)∨(k=1∧(∃el,P.underlying t=some (.pointer el))∧c=.pointer none)∨(k=2∧(∃k v,P.underlying t=some (.map k v))∧c=.map none)∨(k=3∧(∃a b c,P.underlying t=some (.func a b c))∧c=.nilFunc))
  (hs:j9 p xc h0 al env hp (.nilEq k neq y')=some res):qad P C C0 w0 a d env o w res:=by
 have hyv:a.eval y=c:=by subst hy;simp[Act.eval]
 rcases hk with⟨rfl,⟨el,ht⟩,rfl⟩|⟨rfl,⟨el,ht⟩,rfl⟩|⟨rfl,⟨k,el,ht⟩,rfl⟩|⟨rfl,⟨k,el,q,ht⟩,rfl⟩
 ·simp only[j9,zh]at hs
  split at hs<;>first|(exfalso;omega)|skip
  ·rename_i n sz xs _ hv
   obtain rfl:=zx hs
   rcases(zt e.rep hx hv).list_inv with⟨rfl,rfl,h1⟩|⟨h1,r,q,cap,h2,_⟩|⟨h1,_,ad,_,h2⟩
   ·exact qfa m e ho hop hyv (by simp[h1]) (by simp[h1]) (by simp[h1]) (b:=true) (by rw[h1];exact qbo w (d:=9999) (by simp) ht) (by cases neq<;>rfl)
   all_goals
    subst h1
    exact qfa m e ho hop hyv (by simp[h2]) (by simp[h2]) (by simp[h2]) (b:=false) (by rw[h2];exact qbo w (d:=9999) (by simp) ht) (by cases neq<;>rfl)
  ·rename_i b q n _ hv
   obtain rfl:=zx hs
   have hr:=zt e.rep hx hv
   generalize h2:a.eval x=ev at hr
   cases hr with
   |ms b o len r cap hb hl=>
    exact qfa m e ho hop hyv (by simp[h2]) (by simp[h2]) (by simp[h2]) (b:=false) (by rw[h2];exact qbo w (d:=9999) (by simp) ht) (by cases neq<;>rfl)
  ·cases hs
 ·simp only[j9,zh]at hs
  split at hs<;>first|(exfalso;omega)|skip
  ·rename_i _ hv
   obtain rfl:=zx hs
   have hr:=zt e.rep hx hv
   generalize h2:a.eval x=ev at hr
   cases hr
   exact qfa m e ho hop hyv (by simp[h2]) (by simp[h2]) (by simp[h2]) (b:=true) (by rw[h2];exact qbo w (d:=9999) (by simp) ht) (by cases neq<;>rfl)
  ·rename_i _ hv
   obtain rfl:=zx hs
   obtain⟨r,hr,h2⟩:=(zt e.rep hx hv).ptr_inv
   exact qfa m e ho hop hyv (by simp[h2]) (by simp[h2]) (by simp[h2]) (b:=false) (by rw[h2];exact qbo w (d:=9999) (by simp) ht) (by cases neq<;>rfl)
  ·rename_i _ hv
   obtain rfl:=zx hs
   obtain⟨r,q,h2,_⟩:=(zt e.rep hx hv).vptr_inv
   exact qfa m e ho hop hyv (by simp[h2]) (by simp[h2]) (by simp[h2]) (b:=false) (by rw[h2];exact qbo w (d:=9999) (by simp) ht) (by cases neq<;>rfl)
  ·cases hs
 ·simp only[j9,zh]at hs
  split at hs<;>first|(exfalso;omega)|skip
  ·rename_i _ hv
   obtain rfl:=zx hs
   have hr:=zt e.rep hx hv
   generalize h2:a.eval x=ev at hr
   cases hr
   exact qfa m e ho hop hyv (by simp[h2]) (by simp[h2]) (by simp[h2]) (b:=true) (by rw[h2];exact qbo w (d:=9999) (by simp) ht) (by cases neq<;>rfl)
  ·rename_i _ hv
   obtain rfl:=zx hs
   have hr:=zt e.rep hx hv
   generalize h2:a.eval x=ev at hr
   cases hr
   exact qfa m e ho hop hyv (by simp[h2]) (by simp[h2]) (by simp[h2]) (b:=false) (by rw[h2];exact qbo w (d:=9999) (by simp) ht) (by cases neq<;>rfl)
  ·cases hs
 ·simp only[j9,zh]at hs
  split at hs<;>first|(exfalso;omega)|skip
  ·rename_i _ hv
   obtain rfl:=zx hs
   have hr:=zt e.rep hx hv
   generalize h2:a.eval x=ev at hr
   cases hr
   exact qfa m e ho hop hyv (by simp[h2]) (by simp[h2]) (by simp[h2]) (b:=true) (by rw[h2];exact qbo w (d:=9999) (by simp) ht) (by cases neq<;>rfl)
  ·rename_i _ hv
   obtain rfl:=zx hs
   have hr:=zt e.rep hx hv
   generalize h2:a.eval x=ev at hr
   cases hr
   exact qfa m e ho hop hyv (by simp[h2]) (by simp[h2]) (by simp[h2]) (b:=false) (by rw[h2];exact qbo w (d:=9999) (by simp) ht) (by cases neq<;>rfl)
  ·cases hs
theorem qme (m:MInv P C ω w0 C0 hp w)(e:EnvRel C ω w w0.heap.size env a.tmps){op:BinOp}{t u:TypeId}{x y:Operand}{x' y':qh}(ho:o.op=.binOp op t x y u)(h1:zq x=some x')(h2:zq y=some y')(hs:j9 p xc h0 al env hp (.bin op x' y')=some res):qad P C C0 w0 a d env o w res:=by
 simp only[j9,zh]at hs
 split at hs
 ·rename_i u v e1 e2
  obtain⟨z,hz,rfl⟩:=qd0 hs
  exact yd m e (jkz e.rep ho h1 h2 e1 e2 hz)
 ·cases hs
theorem qx0 (m:MInv P C ω w0 C0 hp w)(e:EnvRel C ω w w0.heap.size env a.tmps){op:BinOp}{t u:TypeId}{x y:Operand}{neq:Bool}(ho:o.op=.binOp op t x y u)(hop:op=if neq then .neq else .eql)(hc:cEq P op neq t x y=some aop)(hs:j9 p xc h0 al env hp aop=some res):qad P C C0 w0 a d env o w res:=by
 have hc':cEq P op neq t x y=some aop:=hc
 unfold cEq at hc'
 have eqs:∀ {ks:List Kd} {x' y':qh},qak P t=some true→P.eqGuardType P.depth t=false→qgf P qjr t=some ks→zq x=some x'→zq y=some y'→j9 p xc h0 al env hp (.eqs ks neq x' y')=some res→qad P C C0 w0 a d env o w res:=by
  intro ks x' y' hag hg hk h1 h2 hs
  simp only[j9,zh]at hs
  split at hs
  ·rename_i u v e1 e2
   cases hb:(Nat.beq u.length ks.length&&Nat.beq v.length ks.length)with
   |false=>simp[hb]at hs
   |true=>
    simp only[hb,cT]at hs
    simp only[Bool.and_eq_true]at hb
    split at hs
    ·rename_i b hq
     obtain rfl:=zx hs
     exact yd m e (jkk e.rep ho hop h1 h2 e1 e2 hg hk hag (Nat.eq_of_beq_eq_true hb.1) (Nat.eq_of_beq_eq_true hb.2) hq)
    ·cases hs
  ·cases hs
 split at hc'
 ·split at hc'
  ·rename_i h1 h2;cases hc';exact qme m e ho h1 h2 hs
  ·cases hc'
 ·split at hc'
  ·rename_i h1 h2;cases hc';exact qme m e ho h1 h2 hs
  ·cases hc'
 ·rename_i ht
  split at hc'
  ·rename_i h1 h2
   cases hc'
   simp only[j9,zh]at hs
   split at hs
   ·rename_i u v e1 e2
    obtain rfl:=zx hs
    exact yd m e (jky e.rep ho hop h1 h2 e1 e2 ht)
   ·cases hs
  ·cases hc'
 ·rename_i fs ht
  split at hc'
  ·rename_i hg
   split at hc'
   ·rename_i ks x' y' hk h1 h2;cases hc';exact eqs (by simp[qak,ht]) (by simpa using hg) hk h1 h2 hs
   ·cases hc'
  ·cases hc'
 ·rename_i fs _ ht
  split at hc'
  ·rename_i hg
   split at hc'
   ·rename_i ks x' y' hk h1 h2;cases hc';exact eqs (by simp[qak,ht]) (by simpa using hg) hk h1 h2 hs
   ·cases hc'
  ·cases hc'
 ·rename_i el ht
  split at hc'
  ·obtain⟨x',hx,rfl⟩:=Option.map_eq_some_iff.1 hc'
   exact qlu m e ho hop hx rfl (.inl ⟨rfl,⟨el,ht⟩,rfl⟩) hs
  ·cases hc'
 ·rename_i el ht
  split at hc'
  ·obtain⟨x',hx,rfl⟩:=Option.map_eq_some_iff.1 hc'
   exact qlu m e ho hop hx rfl (.inr (.inl ⟨rfl,⟨el,ht⟩,rfl⟩)) hs
  ·cases hc'
 ·rename_i el _ ht
  split at hc'
  ·obtain⟨x',hx,rfl⟩:=Option.map_eq_some_iff.1 hc'
   exact qlu m e ho hop hx rfl (.inr (.inr (.inl ⟨rfl,⟨_,_,ht⟩,rfl⟩))) hs
  ·cases hc'
 ·rename_i el _ _ ht
  split at hc'
  ·obtain⟨x',hx,rfl⟩:=Option.map_eq_some_iff.1 hc'
   exact qlu m e ho hop hx rfl (.inr (.inr (.inr ⟨rfl,⟨_,_,_,ht⟩,rfl⟩))) hs
  ·cases hc'
 ·cases hc'
theorem jlp (m:MInv P C ω w0 C0 hp w)(e:EnvRel C ω w w0.heap.size env a.tmps){op:BinOp}{t u:TypeId}{x y:Operand}(ho:o.op=.binOp op t x y u)(hc:cOp P h md r dst (.binOp op t x y u)=some aop)(hs:j9 p xc h0 al env hp aop=some res):qad P C C0 w0 a d env o w res:=by
 simp only[cOp]at hc
 unfold jhy at hc
 split at hc
 ·exact qx0 (neq:=false) m e ho rfl hc hs
 ·exact qx0 (neq:=true) m e ho rfl hc hs
 ·split at hc
  ·rename_i h1 h2;cases hc;exact qme m e ho h1 h2 hs
  ·cases hc
end
end Go.Abs
