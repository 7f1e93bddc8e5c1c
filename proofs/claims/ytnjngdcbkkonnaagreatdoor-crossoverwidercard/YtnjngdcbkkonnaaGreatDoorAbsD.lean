/- Slices that are written later. -/
import Derived.Test.YtnjngdcbkkonnaaGreatDoorAbsC
import Derived.Scope
set_option linter.unusedVariables false
set_option linter.unusedSimpArgs false
namespace Go.Abs
section
variable {P:Program}{C C0:Ctx}{ω:Nat→Option Loc}{w w' w0:World}{hp:ze}{env:Env}{a:Act}{o:Oper}{tmps:Array Value}{d:Loc}
theorem qz4 (m:MInv P C ω w0 C0 hp w)(e:EnvRel C ω w w0.heap.size env a.tmps){t el:TypeId}{x y:Operand}{x' y':qf}{n sz b h0 rk:Nat}{z:List qa}{h':ze}
  (ho:o.op=.makeSlice t x y) (ht:P.underlying t=some (.slice el)) (hn:yr P el=some sz) (hb:qgb P el=some b) (hz:qbl P el=some z) (h00:0<sz) (hzl:z.length=sz)
  (h1:zx x=some x') (h2:zx y=some y') (e1:zf env x'=some (.int .i64 (n:Int))) (e2:zf env y'=some (.int .i64 (n:Int))) (hle:n≤1073741824) (hbl:b≤4096)
  (hnew:newBox h0 hp rk (.cells (cellsOf (List.replicate n z).flatten))=some h'):
  ∃v w',(execOp a.eval o).run P w=.ok (.value v) w'∧qaa P C0 w0 C a.tmps d env ⟨.ms (h0+rk) 0 n,false,none,h'⟩ v w':=by
 obtain⟨hh,rfl⟩:=qbd hnew
 obtain⟨hzs,zv,hzr,hzrep,hz1⟩:=qdb (C:=C) hz
 have hzsz:zv.cells.toList.length=sz:=by rw[hzrep.length,hzl]
 have hinit:((Array.range (n*sz)).map (fun i=>zv.cells[i % zv.cells.size]!)).toList=(List.replicate n zv.cells.toList).flatten:=by
  have:=qe0 hzsz h00 n
  simpa using this
 have r1:=(z6 e.rep h1 e1).int_inv
 have r2:=(z6 e.rep h2 e2).int_inv
 have hrep:RepL C (List.replicate n z).flatten ((Array.range (n*sz)).map (fun i=>zv.cells[i % zv.cells.size]!)).toList:=by
  rw[hinit];exact hzrep.replicate n
 obtain⟨i,hi,hib⟩:∃i,P.info? el=some i∧i.bytes=b:=by
  unfold qgb at hb
  cases hi:P.info? el with
  |none=>simp[hi]at hb
  |some i=>exact⟨i,rfl,by simpa[hi]using hb⟩
 have hsi:i.size=sz:=by
  unfold yr at hn
  rw[hi]at hn
  simpa using hn
 have hwrap:IntKind.i64.wrap (n:Int)=n:=by
  rw[←qeh];unfold j9
  have:qe9 .i64 (n:Int)=true:=by simp[qe9];exact Nat.le_trans hle (by decide)
  rw[this];rfl
 have hbn:b*n≤281474976710656:=Nat.le_trans (Nat.mul_le_mul hbl hle) (by decide)
 obtain⟨m',e',hle'⟩:=m.newBox e hh (.cells ((Array.range (n*sz)).map (fun i=>zv.cells[i % zv.cells.size]!)) el) (fun c t fr h=>by cases h;rfl) (.cells (cellsOf (List.replicate n z).flatten))
  (qp7 hrep (by
   intro x h
   rw[List.mem_flatten]at h
   obtain⟨l,q1,q2⟩:=h
   obtain⟨_,rfl⟩:=List.mem_replicate.1 q1
   exact hzs x q2) (by intro j v h;rw[Array.getElem?_toList]at h;exact h) (by have:=hrep.length;simp at this;simp;omega))
 refine⟨.slice (some ⟨w.heap.size,0,none⟩) n n,w.alloc (.cells ((Array.range (n*sz)).map (fun i=>zv.cells[i % zv.cells.size]!)) el),?_,_,_,hle',m',e',.ms _ _ _ _ _ (by simp[Ctx.box]) (Nat.le_refl _),by simp⟩
 have c1:¬((b:Int)*(n:Int) > 2^48):=by
  have h1:((b*n:Nat):Int)≤281474976710656:=Int.ofNat_le.2 hbn
  rw[Int.natCast_mul]at h1
  have h2:(2:Int)^48=281474976710656:=by decide
  rw[h2];omega
 have c2:¬((n:Int)<0):=by omega
 have hr:Array.range 0=#[]:=rfl
 simp only[execOp,ho,Instr.makeSlice,Sem.run_bind,run_underlying ht,r1,r2,asInt,asIntOf,Sem.run_pure,Result.andThen_ok,typeInfo,run_program,hi,hib,hwrap,c2,c1,decide_false,Bool.or_false,Bool.false_eq_true,if_false,Int.lt_irrefl,gt_iff_lt,run_askRoom,Int.toNat_natCast,qa1 hn,newRow]
 by_cases hn0:n=0
 ·subst hn0
  simp[hr]
 ·have hne:¬(n*sz=0):=by
   intro h
   rcases Nat.mul_eq_zero.1 h with h|h<;>omega
  simp[hne,hzr]
theorem jsd (m:MInv P C ω w0 C0 hp w)(e:EnvRel C ω w w0.heap.size env tmps){b r s:Nat}{cells:Array Value}{t:TypeId}{us:List qa}{news:List Value}(hh:hp[b]?=some .hole)(hω:ω r=some (.slot s))(hB:w0.heap.size≤r∨C.W r)(hβ:∀b,C.β b≠some r)
  (hg:w.heap[r]?=some (.cells cells t (0,0))) (hK:∀o,C.K r o=none) (hfit:news.length≤cells.size) (hus:RepL C us news) (hone:∀v∈news,v.oneCell'=true):
  MInv P (C.box b r) ω w0 C0 (hp.set b (.cells (cellsOf us))) (w.setRow r (cells.toList.take 0++news++cells.toList.drop (0+news.length)).toArray) ∧
  EnvRel (C.box b r) ω (w.setRow r (cells.toList.take 0++news++cells.toList.drop (0+news.length)).toArray) w0.heap.size (qai env (some s)) tmps∧C.le (C.box b r):=by
 have hu:=qgg hg (cells.toList.take 0++news++cells.toList.drop (0+news.length)).toArray
 have hgat:=setRow_heap w r cells (cells.toList.take 0++news++cells.toList.drop (0+news.length)).toArray t (0,0) hg
 generalize w.setRow r (cells.toList.take 0++news++cells.toList.drop (0+news.length)).toArray=w' at hu hgat
 have hβb:=qjs m hh
 have hle:=Ctx.box_le (C:=C) (r:=r) hβb
 have hlt:b<hp.length:=(List.getElem?_eq_some_iff.1 hh).1
 have hrlt:r<w.heap.size:=(Array.getElem?_eq_some_iff.1 hg).1
 have hown:∀ℓ x v,ℓ≠.slot s→OwnV C ω w w0.heap.size ℓ x v→OwnV (C.box b r) ω w' w0.heap.size ℓ x v:=by
  intro ℓ x v hℓ ho
  have hne:ω r≠some ℓ:=by rw[hω];intro h;exact hℓ (Option.some.inj h).symm
  exact(ho.box (.inr hne)).upd hu hne
 refine⟨?_,?_,hle⟩
 ·refine { base:=m.base,know:=?_,kone:=m.kone,apart:=?_,inj:=?_,lt:=?_,size:=?_,frame:=?_,dfr:=?_,os:=hu.os.trans m.os,output:=hu.output.trans m.output,fresh:=?_,grown:=Ctx.le_trans m.grown hle,old:=m.old,box:=?_ }
  ·intro k q v hk
   have hkr:k≠r:=fun h=>by
    have hk':C.K k q=some v:=hk
    rw[h,hK q]at hk';cases hk'
   have hc:=m.know _ _ _ hk
   simp only[World.cell?]at hc ⊢
   rw[hu.other k hkr];exact hc
  ·intro k q p hk
   simp only[Ctx.box]at hk
   split at hk
   ·cases hk;exact hK p
   ·exact m.apart k q p hk
  ·intro k k' q hk hk'
   simp only[Ctx.box]at hk hk'
   split at hk<;>split at hk'
   ·rename_i h1 h2;rw[h1,h2]
   ·cases hk;exact absurd hk' (hβ k')
   ·cases hk';exact absurd hk (hβ k)
   ·exact m.inj k k' q hk hk'
  ·intro k q hk
   rw[List.length_set,hu.size]
   simp only[Ctx.box]at hk
   split at hk
   ·rename_i h1;cases hk;subst h1;exact⟨hrlt,hlt⟩
   ·exact m.lt k q hk
  ·rw[hu.size];exact m.size
  ·intro k hk hn hw
   have hkr:k≠r:=fun h=>by
    subst h
    rcases hB with h|h
    ·omega
    ·rw[m.grown.w]at h;exact hw h
   rw[hu.other k hkr];exact m.frame k hk hn hw
  ·intro k hk
   have hkr:k≠r:=fun h=>by
    subst h
    have:=m.dfr k hk
    rw[hg]at this;cases this
   rw[hu.other k hkr];exact m.dfr k hk
  ·intro k q hk
   simp only[Ctx.box]at hk
   split at hk
   ·cases hk
    rcases hB with h|h
    ·exact .inr (.inl h)
    ·rw[m.grown.w]at h;exact .inr (.inr h)
   ·exact m.fresh k q hk
  ·intro k x q hx hk
   simp only[Ctx.box]at hk
   split at hk
   ·rename_i h1
    subst h1
    cases hk
    rw[List.getElem?_set_self hlt]at hx
    cases hx
    have hnl:=hus.length
    refine⟨_,t,hgat,by simp[cellsOf];omega,?_⟩
    intro j c hc
    simp only[cellsOf,List.getElem?_map,Option.map_eq_some_iff]at hc
    obtain⟨x,hx,rfl⟩:=hc
    obtain⟨v,h1,h2⟩:=hus.get hx
    have hj:j<news.length:=(List.getElem?_eq_some_iff.1 h1).1
    refine⟨v,?_,hone v (List.mem_of_getElem? h1),qm.mono hle h2,by simp⟩
    simp only[List.take_zero,List.nil_append,List.getElem?_toArray]
    rw[List.getElem?_append_left hj];exact h1
   ·rename_i h1
    rw[List.getElem?_set_ne (Ne.symm h1)]at hx
    have hne:q≠r:=fun h=>hβ k (h▸hk)
    have hb1:BoxRel P C ω w' w0.heap.size k q x:=(m.box k x q hx hk).upd hu hne (fun j=>by rw[hω];simp)
    exact hb1.mono hle fun j y v ho=>ho.box (.inr (by rw[hω];simp))
 ·intro t' x hx
  by_cases hts:t'=s
  ·subst hts
   simp only[qai]at hx
   cases hl:look t' env with
   |none=>rw[hl]at hx;simp only[hl]at hx;cases hx
   |some y=>
    rw[hl]at hx
    simp only[look,Nat.beq_refl,cT]at hx
    cases hx
    obtain⟨v,h2,h3,_⟩:=e t' y hl
    exact⟨v,h2,qm.mono hle h3,by simp⟩
  ·have hx':look t' env=some x:=by
    simp only[qai]at hx
    cases hl:look s env with
    |none=>rw[hl]at hx;exact hx
    |some y=>
     rw[hl]at hx
     simp only[look]at hx
     have:Nat.beq s t'=false:=by
      cases hb:Nat.beq s t' with
      |false=>rfl
      |true=>exact absurd (Nat.eq_of_beq_eq_true hb).symm hts
     rw[this]at hx
     exact hx
   obtain⟨v,h2,h3,h4⟩:=e t' x hx'
   exact⟨v,h2,qm.mono hle h3,fun h=>hown _ _ _ (by simp[hts]) (h4 h)⟩
theorem q5w {xs:List qa}{vs:List Value}{t:TypeId}{B b r:Nat}{cells:Array Value}(hr:RepL C xs vs)(hone:∀v∈vs,v.oneCell'=true)(hv:∀(j:Nat) v,vs[j]?=some v→cells[j]?=some v)(hl:xs.length≤cells.size):
  ∀C' ω' w',C.le C'→w'.heap[r]?=some (.cells cells t (0,0))→BoxRel P C' ω' w' B b r (.cells (cellsOf xs)):=by
 intro C' ω' w' hle hg
 refine⟨cells,t,hg,by simpa[cellsOf]using hl,?_⟩
 intro j c hc
 simp only[cellsOf,List.getElem?_map,Option.map_eq_some_iff]at hc
 obtain⟨x,hx,rfl⟩:=hc
 obtain⟨v,h1,h2⟩:=hr.get hx
 exact⟨v,hv j v h1,hone v (List.mem_of_getElem? h1),qm.mono hle h2,by simp⟩
theorem q1k (m:MInv P C ω w0 C0 hp w)(e:EnvRel C ω w w0.heap.size env a.tmps){c:Call}{t u el:TypeId}{ut:TypeDesc}{x y:Operand}{x' y':qf}{sz b h0 rk:Nat}{n:Bool}{sz':Nat}{ys:List qa}{vy:qa}{h':ze}
  (ho:o.op=.call c) (hcb:c.callee=.builtin .append) (hca:c.args.toList=[x,y]) (hct:c.argTypes.toList=[t,u]) (ht:P.underlying t=some (.slice el)) (hu:P.underlying u=some ut) (hut:qhj ut=true)
  (hn:yr P el=some sz) (hb:qgb P el=some b) (h1:zx x=some x') (h2:zx y=some y') (e1:zf env x'=some (.list n sz' [])) (e2:zf env y'=some vy) (hsrc:qay sz vy=some ys)
  (hown:(kw env x').isSome=true) (hnn:n=false) (hlen:ys.length≤1073741824) (hbl:b≤4096) (hzero:∃z,qbl P el=some z∧z.length=sz) (hszs:sz=sz')
  (hnew:newBox h0 hp rk (.cells (cellsOf (ys.flatMap qa.flat)))=some h'):
  ∃v w',(execOp a.eval o).run P w=.ok (.value v) w'∧qaa P C0 w0 C a.tmps d env ⟨.ms (h0+rk) 0 ys.length,false,kw env x',h'⟩ v w':=by
 obtain⟨hh,rfl⟩:=qbd hnew
 subst hnn
 subst hszs
 have ha:c.args=#[x,y]:=by apply Array.ext';simpa using hca
 have hty:c.argTypes=#[t,u]:=by apply Array.ext';simpa using hct
 obtain⟨i,hi,hib⟩:∃i,P.info? el=some i∧i.bytes=b:=by
  unfold qgb at hb
  cases hi:P.info? el with
  |none=>simp[hi]at hb
  |some i=>exact⟨i,rfl,by simpa[hi]using hb⟩
 have hsi:i.size=sz:=by
  unfold yr at hn;rw[hi]at hn;simpa using hn
 obtain⟨z,hz,hzl0⟩:=hzero
 obtain⟨zv,hzv⟩:∃zv,i.zero=some zv:=by
  unfold qbl at hz;rw[hi]at hz
  cases hq:i.zero with
  |none=>simp[hq]at hz
  |some v=>exact⟨v,rfl⟩
 have rx:=z6 e.rep h1 e1
 have ry:=z6 e.rep h2 e2
 obtain⟨news,hs,hnews,hysz,hone⟩:=jcu m hu hut hsrc ry
 have hrunE:∀ {z:Value} {w':World},(Builtin.append_ #[t,u] o.type #[a.eval x,a.eval y]).run P w=.ok z w'→(execOp a.eval o).run P w=.ok (.value z) w':=by
  intro z w' h
  simp[execOp,ho,resolve,hcb,ha,hty,invoke,builtin,h]
 have hnl:news.length=ys.length*sz:=by rw[hnews.length,qcq ys hysz]
 rcases rx.list_inv with⟨hh1,_,_⟩|⟨_,r,q,cap,hx,hle,hrow⟩|⟨_,_,ad,hsp,hx⟩
 rotate_right
 ·exact absurd (q2p e h1 hown e1 hx) hsp
 ·cases hh1
 ·obtain⟨s,hs'⟩:=Option.isSome_iff_exists.1 hown
  obtain⟨hx',v0,hl⟩:=qi6 hs'
  have hv0:v0=.list false sz []:=by
   subst hx'
   simp only[zf,hl]at e1
   exact Option.some.inj e1
  subst hv0
  obtain⟨cv,hc1,hc2,hc3⟩:=e s _ hl
  have hcv:cv=.slice (some ⟨r,q,none⟩) 0 cap:=by
   have hxe:zx x=some (.tmp s):=by rw[h1,hx']
   cases x with
   |tmp t'=>
    simp only[zx]at hxe
    cases hxe
    have:a.eval (.tmp s)=cv:=by simp[Act.eval,Array.getD_eq_getD_getElem?,hc1]
    rw[←this,hx];rfl
   |const u=>simp only[zx]at hxe;split at hxe<;>cases hxe
   |func f=>simp[zx]at hxe
   |global g=>simp[zx]at hxe
  subst hcv
  obtain⟨hω,hB,hβ,_,hq0,⟨cells,te,hg,hfit⟩,hK⟩:=hc3 rfl
  simp only at hω hB hβ hg hfit hK hq0
  subst hq0
  simp only[List.length_nil]at hx
  by_cases hroom:0+ys.length≤cap
  ·have hcapsz:(0+ys.length)*sz≤cap*sz:=Nat.mul_le_mul_right _ hroom
   have hrun:=qhs (P:=P) (w:=w) (ty:=o.type) ht hi r 0 0 cap (a.eval y) ys.length news (hsi▸hs) hroom hg (by rw[hnl];simp at hcapsz hfit ⊢;omega)
   rw[←hx]at hrun
   have e0:0+0*i.size=0:=by simp
   rw[e0]at hrun
   obtain⟨m',e',hle'⟩:=jsd (tmps:=a.tmps) m e hh hω hB hβ hg (fun o=>hK o (by simp)) (by rw[hnl];simp at hcapsz hfit ⊢;omega) hnews hone
   rw[hs']
   refine⟨_,_,hrunE hrun,_,_,hle',m',e',?_,by simp⟩
   have:=qm.ms (C:=C.box (h0+rk) r) (h0+rk) 0 ys.length r cap (by simp[Ctx.box]) (by omega)
   simpa using this
  ·have hfit':Builtin.nextslicecap (0+ys.length) cap*i.bytes≤281474976710656:=growslice_fits (by omega) (by
    rw[hib]
    exact Nat.le_trans (Nat.mul_le_mul (by omega) hbl) (by decide:2^30*4096≤_))
   have hrun:=run_append_grow_src w t u o.type el i zv ht hi hzv (some ⟨r,0,none⟩) 0 cap [] (run_firstCells_some _ _ _ _ _ _ [] (by simp) (by simp)) (a.eval y) ys.length news (hsi▸hs) (by omega) (by omega) hfit'
   rw[←hx]at hrun
   have hge:=grownCap_ge w (0+ys.length) cap el
   have hx2:Ext w w.drew:=Ext.drew w
   obtain⟨m',e',hle'⟩:=(m.ext hx2).newBox (e.ext hx2) hh (.cells (([]++news).toArray++Builtin.zeroCells zv.cells (grownCap w (0+ys.length) cap el-(0+ys.length))) el) (fun c t fr h=>by cases h;rfl) (.cells (cellsOf (ys.flatMap qa.flat)))
    (q5w hnews hone (by
     intro j v hj
     rw[Array.getElem?_append_left (by simpa using(List.getElem?_eq_some_iff.1 hj).1)]
     simpa using hj) (by have h5:=hnews.length;rw[Array.size_append];simp only[List.nil_append,List.size_toArray];omega))
   refine⟨_,_,hrunE hrun,_,_,hle',m',e'.strip _,?_,by simp⟩
   have:=qm.ms (C:=C.box (h0+rk) w.drew.heap.size) (h0+rk) 0 ys.length w.drew.heap.size (grownCap w (0+ys.length) cap el) (by simp[Ctx.box]) (by omega)
   simpa using this
end
section
variable {P:Program}{C C0:Ctx}{ω:Nat→Option Loc}{w w' w0:World}{hp:ze}{env:Env}{a:Act}{o:Oper}{tmps:Array Value}{d:Loc}
def qa2 (w:World)(r:Nat)(x:Obj):World:={ w with heap:=w.heap.setIfInBounds r x }
theorem qe4 {r:Nat}{x:Obj}(h:r<w.heap.size):(qa2 w r x).heap[r]?=some x:=by
 show(w.heap.setIfInBounds r x)[r]?=_
 rw[Array.getElem?_setIfInBounds_self_of_lt h]
theorem qgw {r:Nat}{x:Obj}(h:r<w.heap.size)(hx:∀c t fr,x=.cells c t fr→fr=(0,0)):jg w (qa2 w r x) r where
 size:=by simp[qa2]
 other k hk:=by
  show(w.heap.setIfInBounds r x)[k]?=_
  rw[Array.getElem?_setIfInBounds_ne (Ne.symm hk)]
 fz c t fr hc:=by
  rw[qe4 h]at hc
  exact hx c t fr (Option.some.inj hc)
 os:=rfl
 output:=rfl
theorem qdl {r:Nat}{x y:Obj}(h:w.heap[r]?=some y)(hy:∀c t f,y≠.cells c t f):(setObj r x).run P w=.ok () (qa2 w r x):=by
 cases y with
 |cells c t f=>exact absurd rfl (hy c t f)
 |_=>simp[setObj,Sem.run,qa2,h]
theorem qbu {r:Nat}{y:Obj}(h:w.heap[r]?=some y)(hy:∀c t f,y≠.cells c t f):(getObj r).run P w=.ok y w:=by
 cases y with
 |cells c t f=>exact absurd rfl (hy c t f)
 |_=>simp[getObj,Sem.run,h]
theorem jb6 (m:MInv P C ω w0 C0 hp w)(e:EnvRel C ω w w0.heap.size env a.tmps){x:Operand}{x':qf}{b pos:Nat}{s:List UInt8}(ho:o.op=.next x true)(h1:zx x=some x')(e1:zf env x'=some (.ptr b 0))(hbx:hp[b]?=some (.iter s pos)):
  (pos<s.length→∀h',yu hp b (.iter s (pos+(zi s pos).2))=some h'→∃v w',(execOp a.eval o).run P w=.ok (.value v) w'∧qaa P C0 w0 C a.tmps d env ⟨.tup [.bool true,.int .i64 pos,.int .i32 (zi s pos).1],false,none,h'⟩ v w') ∧
  (¬pos<s.length→∃v w',(execOp a.eval o).run P w=.ok (.value v) w'∧qaa P C0 w0 C a.tmps d env ⟨.tup [.bool false],false,none,hp⟩ v w'):=by
 obtain⟨r,hr,hq⟩:=(z6 e.rep h1 e1).ptr_inv
 have hbox:w.heap[r]?=some (.stringIter ⟨⟨s⟩⟩ pos):=m.box b _ r hbx hr
 have hlt:=(m.lt b r hr).1
 have hsz:(⟨⟨s⟩⟩:ByteArray).size=s.length:=rfl
 constructor
 ·intro hpos h' hset
  obtain rfl:=qee hset
  have hu:=qgw (w:=w) (r:=r) (x:=.stringIter ⟨⟨s⟩⟩ (pos+(zi s pos).2)) hlt (by simp)
  refine⟨.tuple #[.bool true,goInt pos,.int .i32 (zi s pos).1],qa2 w r (.stringIter ⟨⟨s⟩⟩ (pos+(zi s pos).2)),?_,C,ω,Ctx.le_refl C,m.updBox hu hr _ (fun _ _ _ _ _ h=>h) (qe4 hlt),e.updβ hu hr,?_,by simp⟩
  ·have hp':pos<(⟨⟨s⟩⟩:ByteArray).size:=hpos
   have hset:=qdl (P:=P) (x:=.stringIter ⟨⟨s⟩⟩ (pos+(zi s pos).2)) hbox (by simp)
   simp only[execOp,ho,hq,Instr.next,Sem.run_bind,qbu hbox (by simp),Result.andThen_ok,hp',if_true]
   unfold zi at hset ⊢
   simp only[Sem.run_bind,hset,Result.andThen_ok,Sem.run_pure]
  ·refine .tup _ _ (.cons _ _ _ _ (.bool _) (.cons _ _ _ _ ?_ (.cons _ _ _ _ (.int _ _) .nil)))
   exact .int _ _
 ·intro hpos
  have hp':¬pos<(⟨⟨s⟩⟩:ByteArray).size:=hpos
  refine⟨.tuple #[.bool false],w,?_,q2l m e (.tup _ _ (.cons _ _ _ _ (.bool _) .nil))⟩
  simp only[execOp,ho,hq,Instr.next,Sem.run_bind,qbu hbox (by simp),Result.andThen_ok,hp',if_false,Sem.run_pure]
theorem qsg {t:TypeId}{kd:Kd}(h:kdT P t=some kd):(kd=.int∧∃k,P.underlying t=some (.int k))∨(kd=.str∧P.underlying t=some .string)∨(kd=.bool∧P.underlying t=some .bool):=by
 unfold kdT at h
 split at h<;>first|cases h|skip
 ·exact .inl ⟨rfl,_,‹_›⟩
 ·exact .inr (.inl ⟨rfl,‹_›⟩)
 ·exact .inr (.inr ⟨rfl,‹_›⟩)
theorem qx8 {t:TypeId}{td:TypeDesc}{kd:Kd}{x y:qa}{u v:Value}{b:Bool}(ht:P.underlying t=some td)(hk:kdT P t=some kd)(hx:Rep C x u)(hy:Rep C y v)(h:qbt kd x y=some b):Instr.sameNow td u v=some b∧(b=true→x=y∧u=v∧Instr.sameBits 10000 v u=true):=by
 rcases qsg hk with⟨rfl,k,hu⟩|⟨rfl,hu⟩|⟨rfl,hu⟩<;>rw[hu]at ht<;>cases ht
 ·cases x<;>cases y<;>simp only[qbt]at h<;>first|cases h|skip
  rename_i k1 n1 k2 n2
  have e1:=hx.int_inv
  have e2:=hy.int_inv
  subst e1;subst e2
  by_cases hkk:k1=k2
  ·subst hkk
   simp only[decide_true,cT,Option.some.injEq]at h
   refine⟨by simp[Instr.sameNow,h],fun hb=>?_⟩
   subst hb
   have:n1=n2:=by simpa using h
   subst this
   exact⟨rfl,rfl,by simp[Instr.sameBits]⟩
  ·simp[hkk]at h
 ·cases x<;>cases y<;>simp only[qbt]at h<;>first|cases h|skip
  rename_i s1 s2
  have e1:=hx.str_inv
  have e2:=hy.str_inv
  subst e1;subst e2
  have hbeq:((⟨⟨s1⟩⟩:ByteArray) == ⟨⟨s2⟩⟩)=(s1 == s2):=by
   show(Array.mk s1 == Array.mk s2)=_
   simp
  refine⟨by simp only[Instr.sameNow,hbeq],fun hb=>?_⟩
  have hss:s1=s2:=by simpa using hb
  subst hss
  refine⟨rfl,rfl,?_⟩
  simp only[Instr.sameBits,hbeq]
  simp
 ·cases x<;>cases y<;>simp only[qbt]at h<;>first|cases h|skip
  rename_i b1 b2
  have e1:=hx.bool_inv
  have e2:=hy.bool_inv
  subst e1;subst e2
  refine⟨by simp[Instr.sameNow],fun hb=>?_⟩
  have hss:b1=b2:=by simpa using hb
  subst hss
  exact⟨rfl,rfl,by simp[Instr.sameBits]⟩
theorem qhq {t:TypeId}{td:TypeDesc}{kd:Kd}{k:qa}{u:Value}(ht:P.underlying t=some td)(hk:kdT P t=some kd)(hx:Rep C k u):∀ {es:List (qa×qa)} {ms:List MapEntry} {i:Nat} {r:Option (Nat×qa)},qv C es ms→yy kd k es i=some r →
  match r with
  |none=>Instr.findNow td u ms i=some none
  |some (j,v)=>∃m,i≤j∧es[j-i]?=some (k,v)∧ms[j-i]?=some m∧m.key=u∧Rep C v m.val∧Instr.findNow td u ms i=some (some (j,m.val))∧Instr.sameBits 10000 m.key u=true
 |_,_,i,r,.nil,h=>by
  simp only[yy,Option.some.injEq]at h
  subst h
  simp[Instr.findNow]
 |_,_,i,r,.cons k' v' es m ms h1 h2 h3,h=>by
  simp only[yy]at h
  split at h
  ·rename_i he
   cases h
   obtain⟨q1,q2⟩:=qx8 ht hk hx h1 he
   obtain⟨rfl,rfl,q3⟩:=q2 rfl
   exact⟨m,Nat.le_refl _,by simp,by simp,rfl,h2,by simp[Instr.findNow,q1],q3⟩
  ·rename_i he
   obtain⟨q1,_⟩:=qx8 ht hk hx h1 he
   have ih:=qhq ht hk hx h3 h
   cases r with
   |none=>simp only[Instr.findNow,q1];exact ih
   |some jv=>
    obtain⟨j,v⟩:=jv
    obtain⟨m2,k1,k2,k3,k4,k5,k6,k7⟩:=ih
    refine⟨m2,by omega,?_,?_,k4,k5,by simp only[Instr.findNow,q1];exact k6,k7⟩
    ·rw[show j-i=(j-(i+1))+1 from by omega];simpa using k2
    ·rw[show j-i=(j-(i+1))+1 from by omega];simpa using k3
  ·cases h
theorem qdw {t:TypeId}{kd:Kd}(hk:kdT P t=some kd)(e:Bool)(v:Value):(Instr.checkKey e 10000 t v).run P w=.ok () w:=by
 rcases qsg hk with⟨_,k,hu⟩|⟨_,hu⟩|⟨_,hu⟩<;>(unfold Instr.checkKey;simp[run_underlying hu])
theorem qf4 {t:TypeId}{td:TypeDesc}{u:Value}{ms:List MapEntry}{r:Option (Nat×Value)}(ht:P.underlying t=some td)(h:Instr.findNow td u ms 0=some r):(Instr.findKey t u ms).run P w=.ok r w:=by
 simp[Instr.findKey,run_underlying ht,h]
theorem qzv {t:TypeId}{kd:Kd}(hk:kdT P t=some kd):∃td,P.underlying t=some td:=by
 rcases qsg hk with⟨_,k,hu⟩|⟨_,hu⟩|⟨_,hu⟩<;>exact⟨_,hu⟩
theorem qp6 (m:MInv P C ω w0 C0 hp w)(e:EnvRel C ω w w0.heap.size env a.tmps){t kt el:TypeId}{x y:Operand}{ok:Bool}{x' y':qf}{kd:Kd}{zv mv kv:qa}{r:Option (Nat×qa)}(ho:o.op=.lookup t x y ok)(ht:P.underlying t=some (.map kt el))(hkd:kdT P kt=some kd)(hz:q86 P el=some zv)
  (h1:zx x=some x') (h2:zx y=some y') (e1:zf env x'=some mv) (e2:zf env y'=some kv)
  (hv:(mv=.nilmap∧r=none)∨∃b es,mv=.map b∧hp[b]?=some (.map es)∧yy kd kv es 0=some r):
  Val P C a o w (match r with
   |some (_,v)=>bif ok then .tup [v,.bool true]else v
   |none=>bif ok then .tup [zv,.bool false]else zv):=by
 have hkr:=z6 e.rep h2 e2
 have hmr:=z6 e.rep h1 e1
 obtain⟨td,htd⟩:=qzv hkd
 obtain⟨zval,hzr,hzv⟩:∃v,(∀w,(zeroValue el).run P w=.ok v w)∧Rep C zv v:=by
  unfold q86 at hz
  split at hz
  ·rename_i i hi
   split at hz
   ·rename_i v hv
    exact⟨v,fun w=>by simp[zeroValue,typeInfo,hi,hv],qu6 C hz⟩
   ·cases hz
  ·cases hz
 have fin:∀ {ms:List MapEntry} {rv:Option (Nat×Value)},(a.eval x=.map none∧ms=[]∨∃q clock,a.eval x=.map (some q)∧w.heap[q]?=some (.map ⟨ms⟩ clock))→Instr.findNow td (a.eval y) ms 0=some rv →
   (execOp a.eval o).run P w=.ok (.value (if ok then .tuple #[(match rv with|some (_,v)=>v|none=>zval),.bool rv.isSome]else(match rv with|some (_,v)=>v|none=>zval))) w:=by
  intro ms rv hm hf
  have hfk:=qf4 (w:=w) htd hf
  rcases hm with⟨hm,rfl⟩|⟨q,clock,hm,hq⟩
  ·cases rv<;>simp[execOp,ho,Instr.lookup,run_underlying ht,hm,qdw hkd,hfk,hzr]
  ·cases rv<;>simp[execOp,ho,Instr.lookup,run_underlying ht,hm,qbu hq (by simp),qdw hkd,hfk,hzr]
 rcases hv with⟨rfl,rfl⟩|⟨b,es,rfl,hb,hfe⟩
 ·generalize hmx:a.eval x=mx at hmr
  cases hmr
  refine⟨_,fin (ms:=[]) (rv:=none) (.inl ⟨hmx,rfl⟩) (by simp[Instr.findNow]),?_⟩
  cases ok with
  |true=>exact .tup _ _ (.cons _ _ _ _ hzv (.cons _ _ _ _ (.bool _) .nil))
  |false=>exact hzv
 ·generalize hmx:a.eval x=mx at hmr
  cases hmr with
  |map _ q hbq=>
   obtain⟨ents,clock,g1,g2⟩:=m.box b _ q hb hbq
   have hf:=qhq htd hkd hkr g2 hfe
   cases r with
   |none=>
    refine⟨_,fin (ms:=ents.toList) (rv:=none) (.inr ⟨q,clock,hmx,g1⟩) hf,?_⟩
    cases ok with
    |true=>exact .tup _ _ (.cons _ _ _ _ hzv (.cons _ _ _ _ (.bool _) .nil))
    |false=>exact hzv
   |some jv=>
    obtain⟨j,v⟩:=jv
    obtain⟨me,_,_,_,_,hrv,hfn,_⟩:=hf
    refine⟨_,fin (ms:=ents.toList) (rv:=some (j,me.val)) (.inr ⟨q,clock,hmx,g1⟩) hfn,?_⟩
    cases ok with
    |true=>exact .tup _ _ (.cons _ _ _ _ hrv (.cons _ _ _ _ (.bool _) .nil))
    |false=>exact hrv
theorem qv.upd {k v:qa}:∀ {es:List (qa×qa)} {ms:List MapEntry} {j:Nat} {m:MapEntry},qv C es ms→Rep C v m.val→(∀k',(es[j]?).map (·.1)=some k'→Rep C k' m.key)→qv C (qci es j v) (ms.set j m)
 |_,_,j,m,.nil,_,_=>by simp[qci];exact .nil
 |_,_,0,m,.cons k' v' es m' ms h1 h2 h3,hv,hk=>by
  simp only[qci,List.set_cons_zero]
  exact .cons _ _ _ _ _ (hk k' (by simp)) hv h3
 |_,_,j+1,m,.cons k' v' es m' ms h1 h2 h3,hv,hk=>by
  simp only[qci,List.set_cons_succ]
  exact .cons _ _ _ _ _ h1 h2 (qv.upd (k:=k) h3 hv (fun k' h=>hk k' (by simpa using h)))
theorem qv.push {k v:qa}{m:MapEntry}{es:List (qa×qa)}{ms:List MapEntry}(h:qv C es ms)(hk:Rep C k m.key)(hv:Rep C v m.val):qv C (es++[(k,v)]) (ms++[m]):=by
 induction h with
 |nil=>exact .cons _ _ _ _ _ hk hv .nil
 |cons k' v' es m' ms h1 h2 _ ih=>exact .cons _ _ _ _ _ h1 h2 ih
theorem qrc (m:MInv P C ω w0 C0 hp w)(e:EnvRel C ω w w0.heap.size env a.tmps){t kt el:TypeId}{x y z:Operand}{x' y' z':qf}{kd:Kd}{kv v:qa}{b:Nat}{es:List (qa×qa)}{h':ze}(ho:o.op=.mapUpdate t x y z∨o.op=.insert t x y z)(ht:P.underlying t=some (.map kt el))(hkd:kdT P kt=some kd)
  (h1:zx x=some x') (h2:zx y=some y') (h3:zx z=some z') (e1:zf env x'=some (.map b)) (e2:zf env y'=some kv) (e3:zf env z'=some v) (hb:hp[b]?=some (.map es))
  (hv:(∃i u,yy kd kv es 0=some (some (i,u))∧yu hp b (.map (qci es i v))=some h')∨(yy kd kv es 0=some none∧yu hp b (.map (es++[(kv,v)]))=some h')):
  ∃w',(execOp a.eval o).run P w=.ok .skip w'∧qaa P C0 w0 C a.tmps d env ⟨.undef,false,none,h'⟩ undef w':=by
 have hkr:=z6 e.rep h2 e2
 have hvr:=z6 e.rep h3 e3
 have hmr:=z6 e.rep h1 e1
 obtain⟨td,htd⟩:=qzv hkd
 generalize hmx:a.eval x=mx at hmr
 cases hmr with
 |map _ q hbq=>
  obtain⟨ents,clock,g1,g2⟩:=m.box b _ q hb hbq
  have hlt:=(m.lt b q hbq).1
  have done:∀(es':List (qa×qa)) (ms':Array MapEntry) (clock':Nat),qv C es' ms'.toList→yu hp b (.map es')=some h' →
    (execOp a.eval o).run P w=.ok .skip (qa2 w q (.map ms' clock'))→∃w',(execOp a.eval o).run P w=.ok .skip w'∧qaa P C0 w0 C a.tmps d env ⟨.undef,false,none,h'⟩ undef w':=by
   intro es' ms' clock' hre hset hrun
   obtain rfl:=qee hset
   have hu:=qgw (w:=w) (r:=q) (x:=.map ms' clock') hlt (by simp)
   exact⟨_,hrun,C,ω,Ctx.le_refl C,m.updBox hu hbq _ (fun _ _ _ _ _ h=>h) ⟨ms',clock',qe4 hlt,hre⟩,e.updβ hu hbq,.undef,by simp⟩
  rcases hv with⟨i,u,hf,hset⟩|⟨hf,hset⟩
  ·obtain⟨me,_,k1,k2,k3,k4,k5,k6⟩:=qhq htd hkd hkr g2 hf
   have hfk:=qf4 (w:=w) htd k5
   simp only[Nat.sub_zero]at k1 k2
   have hei:ents[i]?=some me:=by simpa using k2
   have hlen:i<ents.size:=(Array.getElem?_eq_some_iff.1 hei).1
   refine done (qci es i v) (ents.modify i fun e=>{ e with key:=a.eval y,val:=a.eval z }) clock ?_ hset ?_
   ·have:(ents.modify i fun e=>{ e with key:=a.eval y,val:=a.eval z }).toList=ents.toList.set i { me with key:=a.eval y,val:=a.eval z }:=by
     apply List.ext_getElem?
     intro j
     rw[Array.getElem?_toList,Array.getElem?_modify,List.getElem?_set]
     by_cases hij:i=j
     ·subst hij
      have hgi:=(Array.getElem?_eq_some_iff.1 hei).2
      simp[hlen,hgi]
     ·simp[hij]
    rw[this]
    refine qv.upd (k:=kv) g2 hvr (fun k' hk'=>?_)
    rw[k1]at hk'
    cases hk'
    exact hkr
   ·have hset':=qdl (P:=P) (x:=.map (ents.modify i fun e=>{ e with key:=a.eval y,val:=a.eval z }) clock) g1 (by simp)
    have hstay:∀w:World,(Instr.keyThatStays (((ents[i]?).map (·.key)).getD (a.eval y)) (a.eval y)).run P w=.ok (a.eval y) w:=by
     intro w
     simp[Instr.keyThatStays,hei,k6]
    rcases ho with ho|ho<;>simp only[execOp,ho,Instr.mapUpdate,Sem.run_bind,run_underlying ht,Result.andThen_ok,hmx,qbu g1 (by simp),qdw hkd,hfk,hstay,hset',Sem.run_pure]
  ·have hf':=qhq htd hkd hkr g2 hf
   have hfk:=qf4 (w:=w) htd hf'
   refine done (es++[(kv,v)]) (ents.push { key:=a.eval y,val:=a.eval z,born:=clock }) (clock+1) ?_ hset ?_
   ·rw[Array.toList_push]
    exact g2.push hkr hvr
   ·have hset':=qdl (P:=P) (x:=.map (ents.push { key:=a.eval y,val:=a.eval z,born:=clock }) (clock+1)) g1 (by simp)
    rcases ho with ho|ho<;>simp only[execOp,ho,Instr.mapUpdate,Sem.run_bind,run_underlying ht,Result.andThen_ok,hmx,qbu g1 (by simp),qdw hkd,hfk,hset',Sem.run_pure]
end
section
variable {P:Program}{C C0:Ctx}{ω:Nat→Option Loc}{w w' w0:World}{hp:ze}{env:Env}{a:Act}{o:Oper}{tmps:Array Value}{d:Loc}
theorem q1h {n sz len cap:Nat}{base:Option Addr}{cs:List Value}(hl:cs.length=n*sz)(h:∀ad,base=some ad→∀j v,cs[j]?=some v→w.cell? (ad.add j)=some v)(hn:base=none→n=0):
  (Builtin.firstCells sz n (.slice base len cap)).run P w=.ok cs.toArray w:=by
 cases base with
 |none=>
  have:cs=[]:=by
   have:=hn rfl
   subst this
   exact List.length_eq_zero_iff.1 (by simpa using hl)
  subst this
  exact run_firstCells_none _ _ _ _ _
 |some ad=>exact run_firstCells_some w _ _ _ _ _ cs hl (h ad rfl)
theorem jg5 (m:MInv P C ω w0 C0 hp w)(e:EnvRel C ω w w0.heap.size env a.tmps){c:Call}{t:TypeId}{ts:List TypeId}{el:TypeId}{x y:Operand}{x' y':qf}{sz b q len n:Nat}{vy:qa}{us:List qa}{cs cs':List (qa×Bool)}{h':ze}
  (ho:o.op=.call c) (hcb:c.callee=.builtin .copy) (hca:c.args.toList=[x,y]) (hct:c.argTypes.toList=t::ts) (ht:P.underlying t=some (.slice el)) (hn:yr P el=some sz)
  (h1:zx x=some x') (h2:zx y=some y') (e1:zf env x'=some (.ms b q len)) (e2:zf env y'=some vy) (hbc:yi hp b=some cs) (hsrc:qk6 sz len vy=some (n,us)) (hst:qab cs q us=some cs') (hul:us.length=n*sz) (hset:yu hp b (.cells cs')=some h'):
  ∃u w',(execOp a.eval o).run P w=.ok (.value u) w'∧qaa P C0 w0 C a.tmps d env ⟨.int .i64 n,false,none,h'⟩ u w':=by
 obtain⟨r,cap,hr,hle,hq⟩:=(z6 e.rep h1 e1).ms_inv
 have ry:=z6 e.rep h2 e2
 unfold qab at hst
 cases hb:(Nat.ble (q+us.length) cs.length&&us.all zh)with
 |false=>simp[hb]at hst
 |true=>
  simp only[hb,cT,Option.some.injEq]at hst
  simp only[Bool.and_eq_true]at hb
  subst hst
  -- the source
  obtain⟨news,base,sl,sc,hy,hnews,hcells,hmin,hbase⟩:∃news base sl sc,a.eval y=.slice base sl sc∧RepL C us news∧(∀ad,base=some ad→∀j v,news[j]?=some v→w.cell? (ad.add j)=some v)∧Nat.min sl len=n∧(base=none→n=0):=by
   unfold qk6 at hsrc
   split at hsrc
   ·rename_i nn sy ys
    cases hk:(Nat.beq sz sy||ys.isEmpty)with
    |false=>simp[hk]at hsrc
    |true=>
     simp only[hk,cT,Option.some.injEq,Prod.mk.injEq]at hsrc
     obtain⟨rfl,rfl⟩:=hsrc
     generalize a.eval y=vv at ry
     cases ry with
     |lnil=>exact⟨[],none,0,0,rfl,by simpa using qm.nil,by simp,by simp[Nat.min_def],by simp⟩
     |lemp _ ad _=>exact⟨[],some ad,0,0,rfl,by simpa using qm.nil,by simp,by simp,by simp⟩
     |list _ _ r' o' cap' hl hrow=>
      have hc:RepC C r' ((ys.take len).flatMap qa.flat) o':=RepRow.cells (RepRow.take len hrow)
      obtain⟨vs,k1,k2⟩:=hc.vals
      refine⟨vs,some ⟨r',o',none⟩,ys.length,cap',rfl,k1,?_,rfl,by simp⟩
      intro ad had j v hj
      cases had
      rw[add_lit]
      exact m.know _ _ _ (k2 j v hj)
   ·cases hsrc
  have hone:=qea hnews (by simpa using hb.2)
  obtain⟨vs,te,hg,hfit,m',e'⟩:=q4w m e (qcw hbc) hr hnews hone (Nat.le_of_ble_eq_true hb.1)
  obtain rfl:=qee hset
  have hfc:=q1h (P:=P) (w:=w) (n:=n) (sz:=sz) (len:=sl) (cap:=sc) (base:=base) (cs:=news) (by rw[hnews.length,hul]) hcells hbase
  have hstr:=run_storeCells_at (P:=P) r q te news 0 vs w hg (by simpa using hfit) hone
  simp only[Nat.add_zero]at hstr
  have hrun:(Builtin.copy_ c.argTypes o.type (c.args.map a.eval)).run P w=.ok (goInt n) (w.setRow r (vs.toList.take q++news++vs.toList.drop (q+news.length)).toArray):=by
   have ha:c.args.map a.eval=#[a.eval x,a.eval y]:=by
    apply Array.ext';simp[hca]
   have hat:c.argTypes[0]?=some t:=by rw[←Array.getElem?_toList,hct];rfl
   rw[ha]
   simp only[Builtin.copy_,hat,List.getElem?_toArray,List.getElem?_cons_zero,List.getElem?_cons_succ,Sem.run_bind,run_underlying ht,Result.andThen_ok,hq,hy,Builtin.lenOf,Sem.run_pure,hmin,qa1 hn,hfc,hstr]
  refine⟨goInt n,_,?_,C,ω,Ctx.le_refl C,m',e',?_,by simp⟩
  ·have ha:Array.map a.eval c.args=#[a.eval x,a.eval y]:=by
    apply Array.ext';simp[hca]
   rw[ha]at hrun
   simp[execOp,ho,resolve,hcb,ha,invoke,builtin,hrun]
  ·exact .int _ _
theorem qv.erase:∀ {es:List (qa×qa)} {ms:List MapEntry} (j:Nat),qv C es ms→qv C (es.eraseIdx j) (ms.eraseIdx j)
 |_,_,j,.nil=>by simpa using qv.nil
 |_,_,0,.cons k' v' es m' ms h1 h2 h3=>by simpa using h3
 |_,_,j+1,.cons k' v' es m' ms h1 h2 h3=>by simpa using .cons _ _ _ _ _ h1 h2 (qv.erase j h3)
theorem jaf (m:MInv P C ω w0 C0 hp w)(e:EnvRel C ω w w0.heap.size env a.tmps){c:Call}{t kt el:TypeId}{ts:List TypeId}{x y:Operand}{x' y':qf}{kd:Kd}{kv:qa}{b:Nat}{es:List (qa×qa)}{h':ze}{r:Option (Nat×qa)}
  (ho:o.op=.call c) (hcb:c.callee=.builtin .delete) (hca:c.args.toList=[x,y]) (hct:c.argTypes.toList=t::ts) (ht:P.underlying t=some (.map kt el)) (hkd:kdT P kt=some kd)
  (h1:zx x=some x') (h2:zx y=some y') (e1:zf env x'=some (.map b)) (e2:zf env y'=some kv) (hb:hp[b]?=some (.map es))
  (hf:yy kd kv es 0=some r) (hset:yu hp b (.map (q24 es r))=some h'):
  ∃u w',(execOp a.eval o).run P w=.ok (.value u) w'∧qaa P C0 w0 C a.tmps d env ⟨.tup [],false,none,h'⟩ u w':=by
 have hkr:=z6 e.rep h2 e2
 have hmr:=z6 e.rep h1 e1
 obtain⟨td,htd⟩:=qzv hkd
 have ha:Array.map a.eval c.args=#[a.eval x,a.eval y]:=by
  apply Array.ext';simp[hca]
 have hat:c.argTypes[0]?=some t:=by rw[←Array.getElem?_toList,hct];rfl
 generalize hmx:a.eval x=mx at hmr
 cases hmr with
 |map _ q hbq=>
  obtain⟨ents,clock,g1,g2⟩:=m.box b _ q hb hbq
  have hlt:=(m.lt b q hbq).1
  have done:∀(es':List (qa×qa)) (ms':Array MapEntry),qv C es' ms'.toList→yu hp b (.map es')=some h' →
    (Builtin.delete_ c.argTypes o.type #[.map (some q),a.eval y]).run P w=.ok (.tuple #[]) (qa2 w q (.map ms' clock))→∃u w',(execOp a.eval o).run P w=.ok (.value u) w'∧qaa P C0 w0 C a.tmps d env ⟨.tup [],false,none,h'⟩ u w':=by
   intro es' ms' hre hset hrun
   obtain rfl:=qee hset
   have hu:=qgw (w:=w) (r:=q) (x:=.map ms' clock) hlt (by simp)
   refine⟨.tuple #[],_,?_,C,ω,Ctx.le_refl C,m.updBox hu hbq _ (fun _ _ _ _ _ h=>h) ⟨ms',clock,qe4 hlt,hre⟩,e.updβ hu hbq,.tup _ _ .nil,by simp⟩
   simp[execOp,ho,resolve,hcb,ha,hmx,invoke,builtin,hrun]
  have hfn:=qhq htd hkd hkr g2 hf
  cases r with
  |none=>
   have hfk:=qf4 (w:=w) htd hfn
   refine done es ents g2 hset ?_
   have hset':=qdl (P:=P) (x:=.map ents clock) g1 (by simp)
   simp only[Builtin.delete_,hat,List.getElem?_toArray,List.getElem?_cons_zero,List.getElem?_cons_succ,Sem.run_bind,run_underlying ht,Result.andThen_ok,qbu g1 (by simp),qdw hkd,hfk,hset',Sem.run_pure]
  |some jv=>
   obtain⟨j,v⟩:=jv
   obtain⟨me,_,k1,k2,k3,k4,k5,k6⟩:=hfn
   have hfk:=qf4 (w:=w) htd k5
   refine done (es.eraseIdx j) (ents.eraseIdxIfInBounds j) ?_ hset ?_
   ·have:(ents.eraseIdxIfInBounds j).toList=ents.toList.eraseIdx j:=by simp
    rw[this];exact qv.erase j g2
   ·have hset':=qdl (P:=P) (x:=.map (ents.eraseIdxIfInBounds j) clock) g1 (by simp)
    simp only[Builtin.delete_,hat,List.getElem?_toArray,List.getElem?_cons_zero,List.getElem?_cons_succ,Sem.run_bind,run_underlying ht,Result.andThen_ok,qbu g1 (by simp),qdw hkd,hfk,hset',Sem.run_pure]
end
section
variable {P:Program}{p:qo}{xc:XC}{C C0:Ctx}{ω:Nat→Option Loc}{w w0:World}{hp:ze}{env:Env}{a:Act}{o:Oper}{d:Loc}{h:qg}{md:q9}{r h0:Nat}{dst:Option Nat}{al:Option (List Nat)}{aop:qt}{res:qn}
def qak (P:Program)(C C0:Ctx)(w0:World)(a:Act)(d:Loc)(env:Env)(o:Oper)(w:World)(res:qn):Prop:=
 (∃v w',(execOp a.eval o).run P w=.ok (.value v) w'∧qaa P C0 w0 C a.tmps d env res v w') ∨
 (∃w',(execOp a.eval o).run P w=.ok .skip w'∧qaa P C0 w0 C a.tmps d env res undef w') ∨
 (∃f args,(execOp a.eval o).run P w=.ok (.enter f args) w∧CallsIn Fence.wide 0 P f args w fun e w'=>∃v,e=.returned v∧qaa P C0 w0 C a.tmps d env res v w') ∨
 (∃l f tmps assign body,(execOp a.eval o).run P w=.ok (.round l f tmps assign body) w∧RoundIn Fence.wide 0 P l f tmps assign body w fun e w'=>∃v,e=.returned v∧qaa P C0 w0 C a.tmps d env res v w')
theorem yn (m:MInv P C ω w0 C0 hp w)(e:EnvRel C ω w w0.heap.size env a.tmps){x:qa}(hv:Val P C a o w x):qak P C C0 w0 a d env o w ⟨x,false,none,hp⟩:=by
 obtain⟨v,h1,h2⟩:=hv
 exact .inl ⟨v,w,h1,q2l m e h2⟩
theorem z7 {x:qa}(hs:val hp x=some res):res=⟨x,false,none,hp⟩:=by simpa[val]using hs.symm
theorem qdt {x:Option qa}(hs:qcj hp x=some res):∃v,x=some v∧res=⟨v,false,none,hp⟩:=by
 cases x with
 |none=>simp[qcj]at hs
 |some v=>exact⟨v,rfl,by simpa[qcj]using hs.symm⟩
theorem qg3 (m:MInv P C ω w0 C0 hp w)(e:EnvRel C ω w w0.heap.size env a.tmps){x:Operand}(ho:o.op=.move x∨o.op=.assign x){y:qf}(hc:zx x=some y)(hs:zj env hp (.move y)=some res):qak P C C0 w0 a d env o w res:=by
 simp only[zj]at hs
 obtain⟨v,hv,rfl⟩:=qdt hs
 exact yn m e (jf7 e.rep ho hc hv)
theorem q40 (m:MInv P C ω w0 C0 hp w)(e:EnvRel C ω w w0.heap.size env a.tmps){s:Nat}(ho:o.op=.move (.tmp s)∨o.op=.assign (.tmp s))(hs:zj env hp (.take s)=some res):qak P C C0 w0 a d env o w res:=by
 simp only[zj]at hs
 split at hs
 ·rename_i v ow hl
  cases hs
  exact .inl (jgh m e ho hl)
 ·cases hs
theorem jez (m:MInv P C ω w0 C0 hp w)(e:EnvRel C ω w w0.heap.size env a.tmps){x:Operand}(ho:o.op=.move x)(hc:cOp P h md r dst (.move x)=some aop)(hs:j8 p xc h0 al env hp aop=some res):qak P C C0 w0 a d env o w res:=by
 simp only[cOp]at hc
 split at hc
 ·rename_i s ht
  cases hc
  unfold q6l at ht
  split at ht
  ·split at ht
   ·cases ht;exact q40 m e (.inl ho) hs
   ·cases ht
  ·cases ht
 ·obtain⟨y,hy,rfl⟩:=Option.map_eq_some_iff.1 hc
  exact qg3 m e (.inl ho) hy hs
theorem q8x (m:MInv P C ω w0 C0 hp w)(e:EnvRel C ω w w0.heap.size env a.tmps){x:Operand}(ho:o.op=.assign x)(hc:cOp P h md r dst (.assign x)=some aop)(hs:j8 p xc h0 al env hp aop=some res):qak P C C0 w0 a d env o w res:=by
 cases x with
 |tmp s=>simp only[cOp]at hc;cases hc;exact q40 m e (.inr ho) hs
 |const v=>simp only[cOp]at hc;obtain⟨y,hy,rfl⟩:=Option.map_eq_some_iff.1 hc;exact qg3 m e (.inr ho) hy hs
 |func v=>simp only[cOp]at hc;obtain⟨y,hy,rfl⟩:=Option.map_eq_some_iff.1 hc;exact qg3 m e (.inr ho) hy hs
 |global v=>simp only[cOp]at hc;obtain⟨y,hy,rfl⟩:=Option.map_eq_some_iff.1 hc;exact qg3 m e (.inr ho) hy hs
theorem jfy (m:MInv P C ω w0 C0 hp w)(e:EnvRel C ω w w0.heap.size env a.tmps){c x y:Operand}(ho:o.op=.pick c x y)(hc:cOp P h md r dst (.pick c x y)=some aop)(hs:j8 p xc h0 al env hp aop=some res):qak P C C0 w0 a d env o w res:=by
 simp only[cOp]at hc
 split at hc
 ·rename_i c' x' y' h1 h2 h3
  cases hc
  simp only[j8,zj]at hs
  split at hs
  ·rename_i b e1
   split at hs
   ·rename_i u v e2 e3
    obtain rfl:=z7 hs
    exact yn m e (jga e.rep ho h1 h2 h3 e1 e2 e3)
   ·cases hs
  ·cases hs
 ·cases hc
theorem q46 (m:MInv P C ω w0 C0 hp w)(e:EnvRel C ω w w0.heap.size env a.tmps){x:Operand}(ho:o.op=.nilCheck x)(hc:cOp P h md r dst (.nilCheck x)=some aop)(hs:j8 p xc h0 al env hp aop=some res):qak P C C0 w0 a d env o w res:=by
 simp only[cOp]at hc
 obtain⟨y,hy,rfl⟩:=Option.map_eq_some_iff.1 hc
 simp only[j8,zj]at hs
 split at hs
 ·rename_i b q hv;obtain rfl:=z7 hs;exact yn m e (qri e.rep ho hy hv (.inl ⟨_,_,rfl⟩))
 ·rename_i z hv;obtain rfl:=z7 hs;exact yn m e (qri e.rep ho hy hv (.inr ⟨_,rfl⟩))
 ·rename_i f u v hv
  obtain rfl:=z7 hs
  have hr:=z6 e.rep hy hv
  refine yn m e ⟨a.eval x,?_,hr⟩
  generalize hx:a.eval x=ev at hr
  cases hr with
  |fn f f' u v as bs hf ha hb=>
   simp only[RepFn]at hf
   subst hf
   simp[execOp,ho,hx]
 ·cases hs
theorem jln (m:MInv P C ω w0 C0 hp w)(e:EnvRel C ω w w0.heap.size env a.tmps){op:UnOp}{t:TypeId}{x:Operand}(ho:o.op=.unOp op t x)(hc:cOp P h md r dst (.unOp op t x)=some aop)(hs:j8 p xc h0 al env hp aop=some res):qak P C C0 w0 a d env o w res:=by
 simp only[cOp]at hc
 obtain⟨y,hy,rfl⟩:=Option.map_eq_some_iff.1 hc
 simp only[j8,zj]at hs
 split at hs
 ·rename_i v hv
  obtain⟨u,hu,rfl⟩:=qdt hs
  exact yn m e (jmt e.rep ho hy hv hu)
 ·cases hs
theorem jd7 (m:MInv P C ω w0 C0 hp w)(e:EnvRel C ω w w0.heap.size env a.tmps){s t:TypeId}{x:Operand}(ho:o.op=.convert s t x)(hc:cOp P h md r dst (.convert s t x)=some aop)(hs:j8 p xc h0 al env hp aop=some res):qak P C C0 w0 a d env o w res:=by
 simp only[cOp]at hc
 split at hc
 ·rename_i k0 k u1 u2
  obtain⟨y,hy,rfl⟩:=Option.map_eq_some_iff.1 hc
  simp only[j8,zj]at hs
  split at hs
  ·rename_i k1 n hv
   obtain rfl:=z7 hs
   exact yn m e (jd2 e.rep ho u1 u2 hy hv)
  ·cases hs
 ·rename_i u1 u2
  obtain⟨y,hy,rfl⟩:=Option.map_eq_some_iff.1 hc
  simp only[j8,zj]at hs
  split at hs
  ·rename_i l hv
   obtain rfl:=z7 hs
   exact yn m e (q6h e.rep ho u1 u2 hy hv ⟨_,rfl⟩)
  ·rename_i k1 n hv
   obtain rfl:=z7 hs
   exact yn m e (q3c e.rep ho u1 u2 hy hv)
  ·cases hs
 ·rename_i k0 u1 u2
  obtain⟨y,hy,rfl⟩:=Option.map_eq_some_iff.1 hc
  simp only[j8,zj]at hs
  split at hs
  ·rename_i l hv
   obtain rfl:=z7 hs
   exact yn m e (q35 e.rep ho u1 u2 hy hv ⟨_,rfl⟩)
  ·rename_i k1 n hv
   obtain rfl:=z7 hs
   exact yn m e (q6e e.rep ho u1 u2 hy hv)
  ·cases hs
 ·cases hc
theorem q60 {ag:Bool}{n:Nat}{y:qf}(hs:zj env hp (.vload ag n y)=some res):qau h0 al env hp (.load ag n y)=some res:=by
 simp only[zj]at hs
 simp only[qau]
 split at hs
 ·rename_i v hv
  rw[hv];exact hs
 ·cases hs
theorem q0h {g:Nat}:∀ {l:List (String×List Int)} {cs:List Int},qxj P g l=some cs→∃n,(n,cs)∈l∧P.globalNamed n=some g
 | [],_,h=>by simp[qxj]at h
 |(n,ds)::l,cs,h=>by
  simp only[qxj]at h
  split at h
  ·rename_i hn
   cases h
   exact⟨n,List.mem_cons_self ..,by simpa using hn⟩
  ·obtain⟨n',h1,h2⟩:=q0h h
   exact⟨n',List.mem_cons_of_mem _ h1,h2⟩
theorem jdx {ns:List Int}:RepL C (ns.map (qa.int .i64)) (ns.map (Value.int .i64)):=by
 induction ns with
 |nil=>exact .nil
 |cons n ns ih=>exact .cons _ _ _ _ (.int _ _) ih
theorem jbh (m:MInv P C ω w0 C0 hp w)(e:EnvRel C ω w w0.heap.size env a.tmps){t:TypeId}{g:Nat}(ho:o.op=.load t (.global g))(hc:cOp P h md r dst (.load t (.global g))=some aop)(hs:j8 p xc h0 al env hp aop=some res):qak P C C0 w0 a d env o w res:=by
 have hc:q88 P t g=some aop:=hc
 unfold q88 at hc
 split at hc
 ·rename_i cs n hf hg hn
  split at hc
  ·rename_i hl
   cases hc
   have hl:cs.length=n:=by simpa using hl
   simp only[j8,zj,zf]at hs
   obtain⟨u,hu,rfl⟩:=qdt hs
   cases hu
   obtain⟨nm,hmem,hnm⟩:=q0h hf
   have ht:=(m.tabs g (.inr (.inr ⟨_,hmem,hnm⟩))).2.2.2 _ hmem hnm
   have hcell:∀j v,(cs.map (Value.int .i64))[j]?=some v→w.cell? ⟨g,0+j,none⟩=some v:=by
    intro j v hj
    rw[List.getElem?_map,Option.map_eq_some_iff]at hj
    obtain⟨i,hi,rfl⟩:=hj
    rw[Nat.zero_add]
    exact ht j i hi
   have hload:=qiz (P:=P) (w:=w) hg hn (vs:=cs.map (Value.int .i64)) (by simpa using hl) hcell
   refine yn m e ⟨.agg ⟨cs.map (Value.int .i64)⟩,?_,.agg _ _ jdx⟩
   have hev:a.eval (.global g)=.pointer (some ⟨g,0,none⟩):=rfl
   simp[execOp,ho,Instr.loadAt,hev,Instr.sureAddr,hload]
  ·cases hc
 ·cases hc
theorem jer (m:MInv P C ω w0 C0 hp w)(e:EnvRel C ω w w0.heap.size env a.tmps){t:TypeId}{x:Operand}(ho:o.op=.load t x)(hc:cOp P h md r dst (.load t x)=some aop)(hs:j8 p xc h0 al env hp aop=some res):qak P C C0 w0 a d env o w res:=by
 have key:∀ {ag:Bool} {n:Nat} {y:qf},qaq P t=some ag→yr P t=some n→(ag=false→n=1)→zx x=some y→qau h0 al env hp (.load ag n y)=some res→qak P C C0 w0 a d env o w res:=by
  intro ag n y hg hn h1n hy hs
  simp only[qau]at hs
  split at hs
  ·rename_i b q hv
   cases hk:kf h0 al b with
   |false=>simp[hk]at hs
   |true=>
    simp only[hk,cT]at hs
    split at hs
    ·rename_i cs hcs
     split at hs
     ·rename_i us hus
      cases ag with
      |true=>
       simp only[cT]at hs
       obtain rfl:=z7 hs
       exact yn m e (qvy m e.rep ho hg hn h1n hy hv (.inl ⟨b,q,cs,us,rfl,hcs,hus,.inl ⟨rfl,rfl⟩⟩))
      |false=>
       simp only[cF]at hs
       split at hs
       ·obtain rfl:=z7 hs
        exact yn m e (qvy m e.rep ho hg hn h1n hy hv (.inl ⟨b,q,cs,_,rfl,hcs,hus,.inr ⟨rfl,rfl⟩⟩))
       ·cases hs
     ·cases hs
    ·cases hs
  ·rename_i z hv
   cases hk:(Bool.xor ag z.isAgg||!(Nat.beq z.flat.length n))with
   |true=>simp[hk]at hs
   |false=>
    simp only[hk,cF]at hs
    obtain rfl:=z7 hs
    simp only[Bool.or_eq_false_iff,Bool.not_eq_false']at hk
    exact yn m e (qvy m e.rep ho hg hn h1n hy hv (.inr ⟨rfl,hk.1,Nat.eq_of_beq_eq_true hk.2⟩))
  ·cases hs
 by_cases hx:∃g,x=.global g
 ·obtain⟨g,rfl⟩:=hx
  exact jbh m e ho hc hs
 have hc:(match qaq P t,yr P t,zx x with
  |some false,some 1,some x=>if(dst.map (h.takes.contains ·)).getD false then some (qt.loadTake ((dst.bind fun d=>h.offs.find? fun y=>y.1 == d).map (·.2)) x)else some (bif (dst.map (h.vl.contains ·)).getD false then .vload false 1 x else .load false 1 x)
  |some true,some n,some x=>some (bif (dst.map (h.vl.contains ·)).getD false then .vload true n x else .load true n x)
  |_,_,_=>none)=some aop:=by
  cases x with
  |global g=>exact absurd ⟨g,rfl⟩ hx
  |_=>exact hc
 split at hc
 ·rename_i y hg hn hy
  split at hc
  ·cases hc
   simp only[j8,zp]at hs
   split at hs
   ·rename_i b q hv
    generalize (kf h0 al b&&qit _ q)=kk at hs
    cases kk with
    |false=>simp at hs
    |true=>
     simp only[cT]at hs
     split at hs
     ·rename_i cs hcs
      split at hs
      ·rename_i v ow hq
       split at hs
       ·rename_i h' hset
        cases hs
        exact .inl (q2m m e ho hg hy hv hcs hq hset)
       ·cases hs
      ·cases hs
     ·cases hs
   ·cases hs
  ·cases hc
   generalize (dst.map (h.vl.contains ·)).getD false=bb at hs
   cases bb with
   |false=>exact key hg hn (fun _=>rfl) hy hs
   |true=>exact key hg hn (fun _=>rfl) hy (q60 hs)
 ·rename_i n y hg hn hy
  cases hc
  generalize (dst.map (h.vl.contains ·)).getD false=bb at hs
  cases bb with
  |false=>exact key hg hn (by simp) hy hs
  |true=>exact key hg hn (by simp) hy (q60 hs)
 ·cases hc
theorem jak (m:MInv P C ω w0 C0 hp w)(e:EnvRel C ω w w0.heap.size env a.tmps){t:TypeId}{x y:Operand}(ho:o.op=.store t x y)(hc:cOp P h md r dst (.store t x y)=some aop)(hs:j8 p xc h0 al env hp aop=some res):qak P C C0 w0 a d env o w res:=by
 simp only[cOp]at hc
 split at hc
 ·rename_i n x' y' hn h1 h2
  cases hc
  simp only[j8,zp]at hs
  split at hs
  ·rename_i b q v e1 e2
   cases hk:kf h0 al b with
   |false=>simp[hk]at hs
   |true=>
    simp only[hk,cT]at hs
    split at hs
    ·rename_i cs hcs
     split at hs
     ·rename_i s hown
      cases hb:(Nat.beq n 1&&v.isList&&Nat.blt q cs.length)with
      |false=>simp[hb]at hs
      |true=>
       simp only[hb,cT]at hs
       simp only[Bool.and_eq_true]at hb
       obtain⟨⟨hb1,hb2⟩,hb3⟩:=hb
       obtain rfl:=Nat.eq_of_beq_eq_true hb1
       split at hs
       ·rename_i h' hset
        cases hs
        exact .inr (.inl (q3y m e ho hn h1 h2 e1 e2 hcs hb2 (Nat.blt_eq.mp hb3) hown hset))
       ·cases hs
     ·cases hb:Nat.beq v.flat.length n with
      |false=>simp[hb]at hs
      |true=>
       simp only[hb,cT]at hs
       split at hs
       ·rename_i cs' hst
        split at hs
        ·rename_i h' hset
         obtain rfl:=z7 hs
         exact .inr (.inl (jci m e ho hn h1 h2 e1 e2 hcs (Nat.eq_of_beq_eq_true hb) hst hset))
        ·cases hs
       ·cases hs
    ·cases hs
  ·cases hs
 ·cases hc
theorem jcj {P:Program}{t:TypeId}{e:TypeId}(h:je3 P t=some e):∃sz,qbl P t=some [.nilptr,.list true sz []]:=by
 unfold je3 at h
 split at h
 ·split at h
  ·split at h
   ·split at h
    ·rename_i sz h1 h2
     exact⟨_,h2⟩
    ·cases h
   ·cases h
  ·cases h
 ·cases h
theorem jb5 (m:MInv P C ω w0 C0 hp w)(e:EnvRel C ω w w0.heap.size env a.tmps){t:TypeId}(ho:o.op=.alloc t)(hc:cOp P h md r dst (.alloc t)=some aop)(hs:j8 p xc h0 al env hp aop=some res):qak P C C0 w0 a d env o w res:=by
 simp only[cOp]at hc
 split at hc
 ·rename_i e' he
  cases hc
  obtain⟨sz,hz⟩:=jcj he
  simp only[j8,zp]at hs
  split at hs
  ·rename_i h' hn
   obtain rfl:=z7 hs
   exact .inl (jjs m e ho hz hn)
  ·cases hs
 obtain⟨z,hz,rfl⟩:=Option.map_eq_some_iff.1 hc
 simp only[j8,zp]at hs
 cases hb:z.all zh with
 |false=>simp[hb]at hs
 |true=>
  simp only[hb,cT]at hs
  split at hs
  ·rename_i h' hn
   obtain rfl:=z7 hs
   exact .inl (jck m e ho hz (by simpa using hb) hn)
  ·cases hs
theorem jjw (m:MInv P C ω w0 C0 hp w)(e:EnvRel C ω w w0.heap.size env a.tmps){t:TypeId}{x:Operand}(ho:o.op=.box t x)(hc:cOp P h md r dst (.box t x)=some aop)(hs:j8 p xc h0 al env hp aop=some res):qak P C C0 w0 a d env o w res:=by
 simp only[cOp]at hc
 split at hc
 ·rename_i n x' hn h1
  cases hc
  generalize (dst.map (h.vl.contains ·)).getD false=bb at hs
  cases bb with
  |true=>
   simp only[cT,j8,zj]at hs
   split at hs
   ·rename_i v hv
    cases hb:(Nat.beq v.flat.length n&&v.flat.all zh)with
    |false=>simp[hb]at hs
    |true=>
     simp only[hb,cT]at hs
     simp only[Bool.and_eq_true]at hb
     obtain rfl:=z7 hs
     exact .inl (jgp m e ho h1 hv hb.2)
   ·cases hs
  |false=>
   simp only[cF]at hs
   simp only[j8,zp]at hs
   split at hs
   ·rename_i v hv
    cases hb:(Nat.beq v.flat.length n&&v.flat.all zh)with
    |false=>simp[hb]at hs
    |true=>
     simp only[hb,cT]at hs
     simp only[Bool.and_eq_true]at hb
     split at hs
     ·rename_i h' hn'
      obtain rfl:=z7 hs
      exact .inl (ji6 m e ho h1 hv hb.2 hn')
     ·cases hs
   ·cases hs
 ·cases hc
theorem q6d (m:MInv P C ω w0 C0 hp w)(e:EnvRel C ω w w0.heap.size env a.tmps){i:Nat}{x:Operand}(ho:o.op=.extract x i)(hc:cOp P h md r dst (.extract x i)=some aop)(hs:j8 p xc h0 al env hp aop=some res):qak P C C0 w0 a d env o w res:=by
 simp only[cOp]at hc
 obtain⟨y,hy,rfl⟩:=Option.map_eq_some_iff.1 hc
 simp only[j8,zj]at hs
 split at hs
 ·rename_i vs hv
  obtain⟨u,hu,rfl⟩:=qdt hs
  exact yn m e (q5n e.rep ho hy hv hu)
 ·cases hs
theorem q3q (m:MInv P C ω w0 C0 hp w)(e:EnvRel C ω w w0.heap.size env a.tmps){f:Fn}{xs ys:Array Operand}(ho:o.op=.makeFunc f xs ys)(hc:cOp P h md r dst (.makeFunc f xs ys)=some aop)(hs:j8 p xc h0 al env hp aop=some res):qak P C C0 w0 a d env o w res:=by
 simp only[cOp]at hc
 split at hc
 ·split at hc
  ·rename_i k xs' ys' h1 h2
   cases hc
   simp only[j8,zj]at hs
   split at hs
   ·rename_i us vs e1 e2
    obtain rfl:=z7 hs
    exact yn m e (q87 e.rep ho h1 h2 e1 e2)
   ·cases hs
  ·cases hc
 ·cases hc
theorem q53 (m:MInv P C ω w0 C0 hp w)(e:EnvRel C ω w w0.heap.size env a.tmps){t:TypeId}{x:Option Operand}(ho:o.op=.makeMap t x)(hc:cOp P h md r dst (.makeMap t x)=some aop)(hs:j8 p xc h0 al env hp aop=some res):qak P C C0 w0 a d env o w res:=by
 cases x with
 |some x=>simp[cOp]at hc
 |none=>
  simp only[cOp]at hc
  split at hc
  ·cases hc
   simp only[j8,zp]at hs
   split at hs
   ·rename_i h' hn
    obtain rfl:=z7 hs
    exact .inl (jbk m e ho hn)
   ·cases hs
  ·cases hc
theorem jcp (m:MInv P C ω w0 C0 hp w)(e:EnvRel C ω w w0.heap.size env a.tmps){t:TypeId}{x:Operand}(ho:o.op=.range t x)(hc:cOp P h md r dst (.range t x)=some aop)(hs:j8 p xc h0 al env hp aop=some res):qak P C C0 w0 a d env o w res:=by
 simp only[cOp]at hc
 split at hc
 ·rename_i ht
  obtain⟨y,hy,rfl⟩:=Option.map_eq_some_iff.1 hc
  simp only[j8,zp]at hs
  split at hs
  ·rename_i s hv
   split at hs
   ·rename_i h' hn
    obtain rfl:=z7 hs
    exact .inl (q8s m e ho ht hy hv hn)
   ·cases hs
  ·cases hs
 ·cases hc
theorem jfg (m:MInv P C ω w0 C0 hp w)(e:EnvRel C ω w w0.heap.size env a.tmps){x:Operand}{b:Bool}(ho:o.op=.next x b)(hc:cOp P h md r dst (.next x b)=some aop)(hs:j8 p xc h0 al env hp aop=some res):qak P C C0 w0 a d env o w res:=by
 cases b with
 |false=>simp[cOp]at hc
 |true=>
  simp only[cOp]at hc
  obtain⟨y,hy,rfl⟩:=Option.map_eq_some_iff.1 hc
  simp only[j8,zp]at hs
  split at hs
  ·rename_i b hv
   cases hk:kf h0 al b with
   |false=>simp[hk]at hs
   |true=>
    simp only[hk,cT]at hs
    split at hs
    ·rename_i s pos hb
     obtain⟨k1,k2⟩:=jb6 (d:=d) m e ho hy hv hb
     cases hp:Nat.blt pos s.length with
     |true=>
      simp only[hp,cT]at hs
      split at hs
      ·rename_i h' hset
       obtain rfl:=z7 hs
       exact .inl (k1 (Nat.blt_eq.mp hp) h' hset)
      ·cases hs
     |false=>
      simp only[hp,cF]at hs
      obtain rfl:=z7 hs
      exact .inl (k2 (fun h=>by rw[Nat.blt_eq.mpr h]at hp;cases hp))
    ·cases hs
  ·cases hs
theorem q9l (m:MInv P C ω w0 C0 hp w)(e:EnvRel C ω w w0.heap.size env a.tmps){t:TypeId}{x y:Operand}{ok:Bool}(ho:o.op=.lookup t x y ok)(hc:cOp P h md r dst (.lookup t x y ok)=some aop)(hs:j8 p xc h0 al env hp aop=some res):qak P C C0 w0 a d env o w res:=by
 simp only[cOp]at hc
 split at hc
 ·rename_i kt el ht
  split at hc
  ·rename_i kd z x' y' hkd hz h1 h2
   cases hc
   simp only[j8,qau]at hs
   split at hs
   ·rename_i b kv e1 e2
    cases hk:kf h0 al b with
    |false=>simp[hk]at hs
    |true=>
     simp only[hk,cT]at hs
     split at hs
     ·rename_i es hb
      split at hs
      ·rename_i i v hf
       obtain rfl:=z7 hs
       exact yn m e (qp6 m e ho ht hkd hz h1 h2 e1 e2 (.inr ⟨b,es,rfl,hb,hf⟩))
      ·rename_i hf
       obtain rfl:=z7 hs
       exact yn m e (qp6 m e ho ht hkd hz h1 h2 e1 e2 (.inr ⟨b,es,rfl,hb,hf⟩))
      ·cases hs
     ·cases hs
   ·rename_i kv e1 e2
    obtain rfl:=z7 hs
    exact yn m e (qp6 m e ho ht hkd hz h1 h2 e1 e2 (.inl ⟨rfl,rfl⟩))
   ·cases hs
  ·cases hc
 ·cases hc
theorem qq9 (m:MInv P C ω w0 C0 hp w)(e:EnvRel C ω w w0.heap.size env a.tmps){t:TypeId}{x y z:Operand}(ho:o.op=.mapUpdate t x y z∨o.op=.insert t x y z)(hc:cOp P h md r dst (.mapUpdate t x y z)=some aop)(hs:j8 p xc h0 al env hp aop=some res):qak P C C0 w0 a d env o w res:=by
 simp only[cOp]at hc
 split at hc
 ·rename_i kt el ht
  split at hc
  ·rename_i kd x' y' z' hkd h1 h2 h3
   cases hc
   simp only[j8,zp]at hs
   split at hs
   ·rename_i b kv v e1 e2 e3
    cases hk:kf h0 al b with
    |false=>simp[hk]at hs
    |true=>
     simp only[hk,cT]at hs
     split at hs
     ·rename_i es hb
      split at hs
      ·rename_i i u hf
       split at hs
       ·rename_i h' hset
        obtain rfl:=z7 hs
        exact .inr (.inl (qrc m e ho ht hkd h1 h2 h3 e1 e2 e3 hb (.inl ⟨i,u,hf,hset⟩)))
       ·cases hs
      ·rename_i hf
       cases hl:Nat.ble es.length 1073741824 with
       |false=>simp[hl]at hs
       |true=>
        simp only[hl,cT]at hs
        split at hs
        ·rename_i h' hset
         obtain rfl:=z7 hs
         exact .inr (.inl (qrc m e ho ht hkd h1 h2 h3 e1 e2 e3 hb (.inr ⟨hf,hset⟩)))
        ·cases hs
      ·cases hs
     ·cases hs
   ·cases hs
  ·cases hc
 ·cases hc
end
section
variable {P:Program}{p:qo}{xc:XC}{C C0:Ctx}{ω:Nat→Option Loc}{w w0:World}{hp:ze}{env:Env}{a:Act}{o:Oper}{d:Loc}{h:qg}{md:q9}{r h0:Nat}{dst:Option Nat}{al:Option (List Nat)}{aop:qt}{res:qn}
theorem qbr (w:World){d:Nat}{t:TypeId}{x y:Value}{b:Bool}{u:TypeDesc}(h:(∃e,u=.slice e∧y=.slice none 0 0∧∃q l c,x=.slice q l c∧b=q.isNone)∨(∃e,u=.pointer e∧y=.pointer none∧∃q,x=.pointer q∧b=q.isNone) ∨
  (∃k e,u=.map k e∧y=.map none∧∃q,x=.map q∧b=q.isNone)∨(∃k e v,u=.func k e v∧y=.nilFunc∧((x=.nilFunc∧b=true)∨∃f i j,x=.func f i j∧b=false))) (ht:P.underlying t=some u):
  (Op.equalIn (d+1) t x y).run P w=.ok b w:=by
 rcases h with⟨e,rfl,rfl,q,l,c,rfl,rfl⟩|⟨e,rfl,rfl,q,rfl,rfl⟩|⟨k,e,rfl,rfl,q,rfl,rfl⟩|⟨k,e,v,rfl,rfl,⟨rfl,rfl⟩|⟨f,i,j,rfl,rfl⟩⟩
 ·cases q<;>simp[Op.equalIn,run_underlying ht]
 ·cases q<;>simp[Op.equalIn,run_underlying ht]
 ·cases q<;>simp[Op.equalIn,run_underlying ht]
 ·simp[Op.equalIn,run_underlying ht]
 ·simp[Op.equalIn,run_underlying ht]
theorem qes (m:MInv P C ω w0 C0 hp w)(e:EnvRel C ω w w0.heap.size env a.tmps){op:BinOp}{t u:TypeId}{x y:Operand}{neq b:Bool}{c:Value}(ho:o.op=.binOp op t x y u)(hop:op=if neq then .neq else .eql)(hy:a.eval y=c)
  (hne:(∀k n,a.eval x≠.int k n)∧(∀s,a.eval x≠.string s)∧(∀k n,a.eval x≠.float k n)∧(∀k n m,a.eval x≠.complex k n m)) (hag:∀cs,a.eval x≠.agg cs) (hif:a.eval x≠.nilIface)
  (hq:(Op.equal t (a.eval x) c).run P w=.ok b w) {z:Bool} (hz:z=bif neq then !b else b):qak P C C0 w0 a d env o w ⟨.bool z,false,none,hp⟩:=by
 subst hz
 exact yn m e (jdw ho hop hy hne hag hif hq)
theorem qmu (m:MInv P C ω w0 C0 hp w)(e:EnvRel C ω w w0.heap.size env a.tmps){op:BinOp}{t u:TypeId}{x y:Operand}{y':qf}{neq:Bool}{k:Nat}{c:Value}(ho:o.op=.binOp op t x y u)(hop:op=if neq then .neq else .eql)(hx:zx x=some y')(hy:y=.const c)
  (hk:(k=0∧(∃el,P.underlying t=some (.slice el))∧c=.slice none 0 0)∨(k=1∧(∃el,P.underlying t=some (.pointer el))∧c=.pointer none)∨(k=2∧(∃k v,P.underlying t=some (.map k v))∧c=.map none)∨(k=3∧(∃a b c,P.underlying t=some (.func a b c))∧c=.nilFunc))
  (hs:j8 p xc h0 al env hp (.nilEq k neq y')=some res):qak P C C0 w0 a d env o w res:=by
 have hyv:a.eval y=c:=by subst hy;simp[Act.eval]
 rcases hk with⟨rfl,⟨el,ht⟩,rfl⟩|⟨rfl,⟨el,ht⟩,rfl⟩|⟨rfl,⟨k,el,ht⟩,rfl⟩|⟨rfl,⟨k,el,q,ht⟩,rfl⟩
 ·simp only[j8,zj]at hs
  split at hs<;>first|(exfalso;omega)|skip
  ·rename_i n sz xs _ hv
   obtain rfl:=z7 hs
   rcases(z6 e.rep hx hv).list_inv with⟨rfl,rfl,h1⟩|⟨h1,r,q,cap,h2,_⟩|⟨h1,_,ad,_,h2⟩
   ·exact qes m e ho hop hyv (by simp[h1]) (by simp[h1]) (by simp[h1]) (b:=true) (by rw[h1];exact qbr w (d:=9999) (by simp) ht) (by cases neq<;>rfl)
   all_goals
    subst h1
    exact qes m e ho hop hyv (by simp[h2]) (by simp[h2]) (by simp[h2]) (b:=false) (by rw[h2];exact qbr w (d:=9999) (by simp) ht) (by cases neq<;>rfl)
  ·rename_i b q n _ hv
   obtain rfl:=z7 hs
   have hr:=z6 e.rep hx hv
   generalize h2:a.eval x=ev at hr
   cases hr with
   |ms b o len r cap hb hl=>
    exact qes m e ho hop hyv (by simp[h2]) (by simp[h2]) (by simp[h2]) (b:=false) (by rw[h2];exact qbr w (d:=9999) (by simp) ht) (by cases neq<;>rfl)
  ·cases hs
 ·simp only[j8,zj]at hs
  split at hs<;>first|(exfalso;omega)|skip
  ·rename_i _ hv
   obtain rfl:=z7 hs
   have hr:=z6 e.rep hx hv
   generalize h2:a.eval x=ev at hr
   cases hr
   exact qes m e ho hop hyv (by simp[h2]) (by simp[h2]) (by simp[h2]) (b:=true) (by rw[h2];exact qbr w (d:=9999) (by simp) ht) (by cases neq<;>rfl)
  ·rename_i _ hv
   obtain rfl:=z7 hs
   obtain⟨r,hr,h2⟩:=(z6 e.rep hx hv).ptr_inv
   exact qes m e ho hop hyv (by simp[h2]) (by simp[h2]) (by simp[h2]) (b:=false) (by rw[h2];exact qbr w (d:=9999) (by simp) ht) (by cases neq<;>rfl)
  ·rename_i _ hv
   obtain rfl:=z7 hs
   obtain⟨r,q,h2,_⟩:=(z6 e.rep hx hv).vptr_inv
   exact qes m e ho hop hyv (by simp[h2]) (by simp[h2]) (by simp[h2]) (b:=false) (by rw[h2];exact qbr w (d:=9999) (by simp) ht) (by cases neq<;>rfl)
  ·cases hs
 ·simp only[j8,zj]at hs
  split at hs<;>first|(exfalso;omega)|skip
  ·rename_i _ hv
   obtain rfl:=z7 hs
   have hr:=z6 e.rep hx hv
   generalize h2:a.eval x=ev at hr
   cases hr
   exact qes m e ho hop hyv (by simp[h2]) (by simp[h2]) (by simp[h2]) (b:=true) (by rw[h2];exact qbr w (d:=9999) (by simp) ht) (by cases neq<;>rfl)
  ·rename_i _ hv
   obtain rfl:=z7 hs
   have hr:=z6 e.rep hx hv
   generalize h2:a.eval x=ev at hr
   cases hr
   exact qes m e ho hop hyv (by simp[h2]) (by simp[h2]) (by simp[h2]) (b:=false) (by rw[h2];exact qbr w (d:=9999) (by simp) ht) (by cases neq<;>rfl)
  ·cases hs
 ·simp only[j8,zj]at hs
  split at hs<;>first|(exfalso;omega)|skip
  ·rename_i _ hv
   obtain rfl:=z7 hs
   have hr:=z6 e.rep hx hv
   generalize h2:a.eval x=ev at hr
   cases hr
   exact qes m e ho hop hyv (by simp[h2]) (by simp[h2]) (by simp[h2]) (b:=true) (by rw[h2];exact qbr w (d:=9999) (by simp) ht) (by cases neq<;>rfl)
  ·rename_i _ hv
   obtain rfl:=z7 hs
   have hr:=z6 e.rep hx hv
   generalize h2:a.eval x=ev at hr
   cases hr
   exact qes m e ho hop hyv (by simp[h2]) (by simp[h2]) (by simp[h2]) (b:=false) (by rw[h2];exact qbr w (d:=9999) (by simp) ht) (by cases neq<;>rfl)
  ·cases hs
theorem qnu (m:MInv P C ω w0 C0 hp w)(e:EnvRel C ω w w0.heap.size env a.tmps){op:BinOp}{t u:TypeId}{x y:Operand}{x' y':qf}(ho:o.op=.binOp op t x y u)(h1:zx x=some x')(h2:zx y=some y')(hs:j8 p xc h0 al env hp (.bin op x' y')=some res):qak P C C0 w0 a d env o w res:=by
 simp only[j8,zj]at hs
 split at hs
 ·rename_i u v e1 e2
  obtain⟨z,hz,rfl⟩:=qdt hs
  exact yn m e (jiy e.rep ho h1 h2 e1 e2 hz)
 ·cases hs
theorem qyk (m:MInv P C ω w0 C0 hp w)(e:EnvRel C ω w w0.heap.size env a.tmps){op:BinOp}{t u:TypeId}{x y:Operand}{neq:Bool}(ho:o.op=.binOp op t x y u)(hop:op=if neq then .neq else .eql)(hc:cEq P op neq t x y=some aop)(hs:j8 p xc h0 al env hp aop=some res):qak P C C0 w0 a d env o w res:=by
 have hc':cEq P op neq t x y=some aop:=hc
 unfold cEq at hc'
 have eqs:∀ {ks:List Kd} {x' y':qf},qaq P t=some true→P.eqGuardType P.depth t=false→qf5 P qkn t=some ks→zx x=some x'→zx y=some y'→j8 p xc h0 al env hp (.eqs ks neq x' y')=some res→qak P C C0 w0 a d env o w res:=by
  intro ks x' y' hag hg hk h1 h2 hs
  simp only[j8,zj]at hs
  split at hs
  ·rename_i u v e1 e2
   cases hb:(Nat.beq u.length ks.length&&Nat.beq v.length ks.length)with
   |false=>simp[hb]at hs
   |true=>
    simp only[hb,cT]at hs
    simp only[Bool.and_eq_true]at hb
    split at hs
    ·rename_i b hq
     obtain rfl:=z7 hs
     exact yn m e (jib e.rep ho hop h1 h2 e1 e2 hg hk hag (Nat.eq_of_beq_eq_true hb.1) (Nat.eq_of_beq_eq_true hb.2) hq)
    ·cases hs
  ·cases hs
 split at hc'
 ·split at hc'
  ·rename_i h1 h2;cases hc';exact qnu m e ho h1 h2 hs
  ·cases hc'
 ·split at hc'
  ·rename_i h1 h2;cases hc';exact qnu m e ho h1 h2 hs
  ·cases hc'
 ·rename_i ht
  split at hc'
  ·rename_i h1 h2
   cases hc'
   simp only[j8,zj]at hs
   split at hs
   ·rename_i u v e1 e2
    obtain rfl:=z7 hs
    exact yn m e (jh7 e.rep ho hop h1 h2 e1 e2 ht)
   ·cases hs
  ·cases hc'
 ·rename_i fs ht
  split at hc'
  ·rename_i hg
   split at hc'
   ·rename_i ks x' y' hk h1 h2;cases hc';exact eqs (by simp[qaq,ht]) (by simpa using hg) hk h1 h2 hs
   ·cases hc'
  ·cases hc'
 ·rename_i fs _ ht
  split at hc'
  ·rename_i hg
   split at hc'
   ·rename_i ks x' y' hk h1 h2;cases hc';exact eqs (by simp[qaq,ht]) (by simpa using hg) hk h1 h2 hs
   ·cases hc'
  ·cases hc'
 ·rename_i el ht
  split at hc'
  ·obtain⟨x',hx,rfl⟩:=Option.map_eq_some_iff.1 hc'
   exact qmu m e ho hop hx rfl (.inl ⟨rfl,⟨el,ht⟩,rfl⟩) hs
  ·cases hc'
 ·rename_i el ht
  split at hc'
  ·obtain⟨x',hx,rfl⟩:=Option.map_eq_some_iff.1 hc'
   exact qmu m e ho hop hx rfl (.inr (.inl ⟨rfl,⟨el,ht⟩,rfl⟩)) hs
  ·cases hc'
 ·rename_i el _ ht
  split at hc'
  ·obtain⟨x',hx,rfl⟩:=Option.map_eq_some_iff.1 hc'
   exact qmu m e ho hop hx rfl (.inr (.inr (.inl ⟨rfl,⟨_,_,ht⟩,rfl⟩))) hs
  ·cases hc'
 ·rename_i el _ _ ht
  split at hc'
  ·obtain⟨x',hx,rfl⟩:=Option.map_eq_some_iff.1 hc'
   exact qmu m e ho hop hx rfl (.inr (.inr (.inr ⟨rfl,⟨_,_,_,ht⟩,rfl⟩))) hs
  ·cases hc'
 ·cases hc'
theorem jir (m:MInv P C ω w0 C0 hp w)(e:EnvRel C ω w w0.heap.size env a.tmps){op:BinOp}{t u:TypeId}{x y:Operand}(ho:o.op=.binOp op t x y u)(hc:cOp P h md r dst (.binOp op t x y u)=some aop)(hs:j8 p xc h0 al env hp aop=some res):qak P C C0 w0 a d env o w res:=by
 simp only[cOp]at hc
 unfold jnk at hc
 split at hc
 ·exact qyk (neq:=false) m e ho rfl hc hs
 ·exact qyk (neq:=true) m e ho rfl hc hs
 ·split at hc
  ·rename_i h1 h2;cases hc;exact qnu m e ho h1 h2 hs
  ·cases hc
end
end Go.Abs
