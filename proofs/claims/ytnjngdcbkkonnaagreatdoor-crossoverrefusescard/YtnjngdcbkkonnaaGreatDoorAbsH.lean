/- The executor for the kernel's run. -/
import Derived.Test.YtnjngdcbkkonnaaGreatDoorAbsG
import Derived.WalkKit
import Derived.ProofKit
import Derived.OpenShut
import Derived.ShutString
import Derived.ChangeOld
import Derived.Below
import Derived.Carry
import Derived.KernelRfl
import Derived.CallsIn
set_option linter.unusedVariables false
set_option linter.unusedSimpArgs false
namespace Go.Abs
def qbw {α:Type}(n:Nat)(f:Nat→α):α:=match n with
 |0=>f 0
 |m+1=>f (Nat.succ m)
def qv0 {α:Type}(n:Int)(f:Int→α):α:=match n with
 | .ofNat a=>qbw a fun a=>f (.ofNat a)
 | .negSucc a=>qbw a fun a=>f (.negSucc a)
def qiz {α:Type}(b:Bool)(f:Bool→α):α:=match b with
 |true=>f true
 |false=>f false
def q0i {α:Type}(k:IntKind)(f:IntKind→α):α:=match k with
 | .i8=>f .i8 | .i16=>f .i16 | .i32=>f .i32 | .i64=>f .i64 | .u8=>f .u8 | .u16=>f .u16 | .u32=>f .u32 | .u64=>f .u64
def qhd {α:Type}:List UInt8→(List UInt8→α)→α
 | [],f=>f []
 |c::s,f=>qhd s fun s=>f (c::s)
def qzy {α:Type}(g:Fn)(f:Fn→α):α:=match g with
 | .func k=>qbw k fun k=>f (.func k)
 | .yield k=>qbw k fun k=>f (.yield k)
 |g=>f g
mutual
def qbh {α:Type}:qa→(qa→α)→α
 | .bool b,f=>qiz b fun b=>f (.bool b)
 | .int k n,f=>q0i k fun k=>qv0 n fun n=>f (.int k n)
 | .str s,f=>qhd s fun s=>f (.str s)
 | .list b sz xs,f=>qiz b fun b=>qbw sz fun sz=>qg4 xs fun xs=>f (.list b sz xs)
 | .ms b o l,f=>qbw b fun b=>qbw o fun o=>qbw l fun l=>f (.ms b o l)
 | .ptr b o,f=>qbw b fun b=>qbw o fun o=>f (.ptr b o)
 | .vptr v,f=>qbh v fun v=>f (.vptr v)
 | .nilptr,f=>f .nilptr
 | .map b,f=>qbw b fun b=>f (.map b)
 | .nilmap,f=>f .nilmap
 | .fn g a c,f=>qzy g fun g=>qg4 a fun a=>qg4 c fun c=>f (.fn g a c)
 | .nilfn,f=>f .nilfn
 | .agg cs,f=>qg4 cs fun cs=>f (.agg cs)
 | .tup cs,f=>qg4 cs fun cs=>f (.tup cs)
 | .undef,f=>f .undef
 | .any,f=>f .any
def qg4 {α:Type}:List qa→(List qa→α)→α
 | [],f=>f []
 |x::xs,f=>qbh x fun x=>qg4 xs fun xs=>f (x::xs)
end
def qmb {α:Type}:Env→(Env→α)→α
 | [],f=>f []
 |(t,v,o)::e,f=>qbw t fun t=>qbh v fun v=>qiz o fun o=>qmb e fun e=>f ((t,v,o)::e)
def qj0 {α:Type}:List (qa×Bool)→(List (qa×Bool)→α)→α
 | [],f=>f []
 |(v,o)::e,f=>qbh v fun v=>qiz o fun o=>qj0 e fun e=>f ((v,o)::e)
def qgy {α:Type}:List (qa×qa)→(List (qa×qa)→α)→α
 | [],f=>f []
 |(k,v)::e,f=>qbh k fun k=>qbh v fun v=>qgy e fun e=>f ((k,v)::e)
def qs8 {α:Type}(x:Option qi)(f:Option qi→α):α:=match x with
 |none=>f none
 |some .normal=>f (some .normal)
 |some (.exit id)=>qbw id fun id=>f (some (.exit id))
 |some .ret=>f (some .ret)
def qv6 {α:Type}:qv→(qv→α)→α
 | .hole,f=>f .hole
 | .cells cs,f=>qj0 cs fun cs=>f (.cells cs)
 | .map es,f=>qgy es fun es=>f (.map es)
 | .iter s pos,f=>qbw pos fun pos=>f (.iter s pos)
 | .bld t e l,f=>qhd l fun l=>f (.bld t e l)
 | .dead,f=>f .dead
 | .loop l,f=>qmb l.env fun e=>qs8 l.pending fun x=>f (.loop ⟨e,l.params,l.assign,l.body,x⟩)
def qnb {α:Type}:zd→(zd→α)→α
 | [],f=>f []
 |b::h,f=>qv6 b fun b=>qnb h fun h=>f (b::h)
def qn0 {α:Type}(st:qc)(f:qc→α):α:=qmb st.env fun e=>qnb st.heap fun h=>f ⟨e,h⟩
section
variable {α:Type}
theorem qcg (n:Nat)(f:Nat→α):qbw n f=f n:=by cases n<;>rfl
theorem q4q (n:Int)(f:Int→α):qv0 n f=f n:=by cases n<;>simp[qv0,qcg]
theorem qg9 (n:Bool)(f:Bool→α):qiz n f=f n:=by cases n<;>rfl
theorem q4n (n:IntKind)(f:IntKind→α):q0i n f=f n:=by cases n<;>rfl
theorem qjp:∀ (s:List UInt8) (f:List UInt8→α),qhd s f=f s
 | [],_=>rfl
 |c::s,f=>by simp only[qhd];rw[qjp s]
theorem q80 (g:Fn)(f:Fn→α):qzy g f=f g:=by cases g<;>simp[qzy,qcg]
mutual
theorem qiv:∀ (v:qa) (f:qa→α),qbh v f=f v
 | .bool b,f=>by simp only[qbh,qg9]
 | .int k n,f=>by simp only[qbh,q4n,q4q]
 | .str s,f=>by simp only[qbh,qjp]
 | .list b sz xs,f=>by simp only[qbh,qg9,qcg];rw[qgo xs]
 | .ms b o l,f=>by simp only[qbh,qcg]
 | .ptr b o,f=>by simp only[qbh,qcg]
 | .vptr v,f=>by simp only[qbh];rw[qiv v]
 | .nilptr,f=>by simp only[qbh]
 | .map b,f=>by simp only[qbh,qcg]
 | .nilmap,f=>by simp only[qbh]
 | .fn g a c,f=>by simp only[qbh,q80];rw[qgo a,qgo c]
 | .nilfn,f=>by simp only[qbh]
 | .agg cs,f=>by simp only[qbh];rw[qgo cs]
 | .tup cs,f=>by simp only[qbh];rw[qgo cs]
 | .undef,f=>by simp only[qbh]
 | .any,f=>by simp only[qbh]
theorem qgo:∀ (l:List qa) (f:List qa→α),qg4 l f=f l
 | [],f=>by simp only[qg4]
 |x::xs,f=>by simp only[qg4];rw[qiv x,qgo xs]
end
theorem qnh:∀ (e:Env) (f:Env→α),qmb e f=f e
 | [],_=>rfl
 |(t,v,o)::e,f=>by simp only[qmb,qcg,qiv,qg9];rw[qnh e]
theorem qrk:∀ (e:List (qa×Bool)) (f:List (qa×Bool)→α),qj0 e f=f e
 | [],_=>rfl
 |(v,o)::e,f=>by simp only[qj0,qiv,qg9];rw[qrk e]
theorem qne:∀ (e:List (qa×qa)) (f:List (qa×qa)→α),qgy e f=f e
 | [],_=>rfl
 |(v,o)::e,f=>by simp only[qgy,qiv];rw[qne e]
theorem q4a (x:Option qi)(f:Option qi→α):qs8 x f=f x:=by
 cases x with
 |none=>rfl
 |some x=>cases x<;>simp[qs8,qcg]
theorem q5l (b:qv)(f:qv→α):qv6 b f=f b:=by
 cases b<;>simp[qv6,qrk,qne,qcg,qjp,qnh,q4a]
theorem qr5:∀ (h:zd) (f:zd→α),qnb h f=f h
 | [],_=>rfl
 |b::h,f=>by simp only[qnb,q5l];rw[qr5 h]
theorem qq8 (st:qc)(f:qc→α):qn0 st f=f st:=by simp only[qn0,qnh,qr5]
end
def qaa (p:qn):Nat→XC
 |0,_,_=>none
 |n+1,c,st=>match c with
  | .skip=>some (.normal,st)
  | .region na ops keep=>match qce p (qaa p n) na ops keep st with
   |some (x,st')=>qn0 st' fun s=>some (x,s)
   |none=>none
  | .seq a b=>match qaa p n a st with
   |some (.normal,st')=>qaa p n b st'
   |r=>r
  | .cond c a b=>match zc st.env c with
   |some (.bool t)=>bif t then qaa p n a st else qaa p n b st
   |_=>none
  | .block id body=>match qaa p n body st with
   |some (.exit id',st')=>bif Nat.beq id' id then some (.normal,st')else some (.exit id',st')
   |r=>r
  | .loop body=>match qaa p n body st with
   |some (.normal,st')=>qn0 (gc st.heap.length st') fun s=>qaa p n (.loop body) s
   |r=>r
  | .rangeFunc f params assign body=>match qc6 p (qaa p n) f params assign body st with
   |some (x,st')=>qn0 st' fun s=>some (x,s)
   |none=>none
  | .exit id=>some (.exit id,st)
  | .ret=>some (.ret,st)
  | .grow sz=>match look 0 st.env,look 1 st.env with
   |some (.list true _ _,_),some (.int .i64 (.ofNat m),_)=>bif Nat.blt 0 m&&Nat.ble m 1073741824 then some (.normal,{ st with env:=[(0,.list false sz [],true)] })else none
   |_,_=>none
  | .stuck=>none
theorem qs3 (p:qn):∀n,qaa p n=ye p n
 |0=>by funext c st;rfl
 |n+1=>by
  have ih:=qs3 p n
  funext c st
  cases c with
  |region na ops keep=>
   simp only[qaa,ye,ih]
   cases qce p (ye p n) na ops keep st with
   |none=>rfl
   |some r=>simp only[qq8]
  |rangeFunc f ps a b=>
   simp only[qaa,ye,ih]
   cases qc6 p (ye p n) f ps a b st with
   |none=>rfl
   |some r=>simp only[qq8]
  |loop body=>
   simp only[qaa,ye,ih,qq8]
   rfl
  |_=>simp only[qaa,ye,ih]<;>rfl
inductive q9 where
 |leaf (k:Nat) (f:qg)
 |node (m:Nat) (a b:q9)
def q9.find:q9→Nat→Option qg
 | .leaf k f,n=>bif Nat.beq k n then some f else none
 | .node m a b,n=>bif Nat.blt n m then a.find n else b.find n
def q9.All (Q:Nat→qg→Prop):q9→Prop
 | .leaf k f=>Q k f
 | .node _ a b=>a.All Q∧b.All Q
theorem q9.find_all {Q:Nat→qg→Prop}:∀ {t:q9} {k:Nat} {f:qg},t.All Q→t.find k=some f→Q k f
 | .leaf j g,k,f,h,hf=>by
  simp only[q9.find]at hf
  cases hb:Nat.beq j k with
  |false=>simp[hb]at hf
  |true=>
   have:=Nat.eq_of_beq_eq_true hb
   subst this
   simp only[hb,cT,Option.some.injEq]at hf
   subst hf;exact h
 | .node m a b,k,f,h,hf=>by
  simp only[q9.find]at hf
  cases hb:Nat.blt k m with
  |true=>simp only[hb,cT]at hf;exact q9.find_all h.1 hf
  |false=>simp only[hb,cF]at hf;exact q9.find_all h.2 hf
def q9.prog (t:q9)(prims:qil)(maps:q7d:=fun _=>none):qn:={ fns:=t.find,prims:=prims,maps:=maps }
theorem q94 {p:qn}{n k:Nat}{args:List qa}{r:Option (qa×Bool)}(h:j7 p (qaa p n) k args=r):j7 p (ye p n) k args=r:=by
 rw[←qs3];exact h
def Kw (w:World):Nat→Nat→Option Value:=fun r o=>(w.cell? ⟨r,o,none⟩).filter (·.oneCell')
theorem jvm {w:World}{r o:Nat}{v:Value}(h:w.cell? ⟨r,o,none⟩=some v)(h1:v.oneCell'=true):Kw w r o=some v:=by simp[Kw,h,h1]
theorem q5y {w:World}{r o:Nat}{v:Value}(h:Kw w r o=some v):w.cell? ⟨r,o,none⟩=some v∧v.oneCell'=true:=by
 unfold Kw at h;rw[Option.filter_eq_some_iff]at h;exact h
def qe8 (P:Program)(t:TypeId):Bool:=match P.underlying t with
 |some (.struct _)=>true
 |some (.array _ _)=>true
 |_=>false
def q1s (P:Program):Nat→List Field→Bool
 |_,[]=>true
 |o,f::fs=>f.offset == o&&q1s P (o+P.cellsOf f.type) fs
def qna (P:Program)(fs:List Field):Nat:=(fs.map fun f=>P.cellsOf f.type).sum
def qe5 (P:Program):Nat→TypeId→Bool
 |0,_=>false
 |n+1,t=>match P.underlying t with
  |some .bool=>P.cellsOf t == 1
  |some (.int _)=>P.cellsOf t == 1
  |some .string=>P.cellsOf t == 1
  |some (.slice e)=>P.cellsOf t == 1&&qe5 P n e&&decide (0<P.cellsOf e)
  |some (.struct fs)=>q1s P 0 fs.toList&&qna P fs.toList == P.cellsOf t&&fs.toList.all fun f=>qe5 P n f.type
  |some (.array k e)=>P.cellsOf t == k*P.cellsOf e&&qe5 P n e
  |_=>false
def qpi (ty:TypeId→List qa→Prop):List Field→List qa→Prop
 | [],cs=>cs=[]
 |f::fs,cs=>∃ys zs,cs=ys++zs∧ty f.type ys∧qpi ty fs zs
def qlc (ty:List qa→Prop):Nat→List qa→Prop
 |0,cs=>cs=[]
 |k+1,cs=>∃ys zs,cs=ys++zs∧ty ys∧qlc ty k zs
def kx (P:Program):Nat→TypeId→List qa→Prop
 |0,_,_=>False
 |n+1,t,cs=>match P.underlying t with
  |some .bool=>∃b,cs=[.bool b]
  |some (.int k)=>∃m,cs=[.int k m]∧(Lit.int k m).wf=true
  |some .string=>∃s,cs=[.str s]∧s.length≤maxLen
  |some (.slice e)=>cs=[.list true 0 []]∨∃xs,cs=[.list false (P.cellsOf e) xs]∧xs.length≤maxLen∧∀y∈xs,kx P n e y.flat∧y.isAgg=qe8 P e
  |some (.struct fs)=>qpi (kx P n) fs.toList cs
  |some (.array k e)=>qlc (kx P n e) k cs
  |_=>False
section
variable {P:Program}{H:Type}{enc:TypeId×Value→H}{w:World}
theorem q0l:∀ (fs:List Field) (o:Nat) (vs:List Value),q1s P o fs=true→vs.length=o+qna P fs→vs.drop o=(fs.map fun f=>(vs.drop f.offset).take (P.cellsOf f.type)).flatten
 | [],o,vs,_,hl=>by simp[qna]at hl;simp[hl]
 |f::fs,o,vs,ht,hl=>by
  simp only[q1s,Bool.and_eq_true,beq_iff_eq]at ht
  obtain⟨rfl,ht⟩:=ht
  have ih:=q0l fs _ vs ht (by simp[qna]at hl ⊢;omega)
  rw[List.map_cons,List.flatten_cons,←ih,←List.drop_drop,List.take_append_drop]
theorem qkr {α β:Type}{f:α→Option β}:∀ {l:List α} {ys:List β},l.mapM f=some ys→ys.length=l.length∧∀(i:Nat) (x:α),l[i]?=some x→∃y,ys[i]?=some y∧f x=some y
 | [],ys,h=>by simp at h;subst h;simp
 |a::l,ys,h=>by
  rw[List.mapM_cons]at h
  cases hf:f a with
  |none=>simp[hf]at h
  |some y=>
   cases hr:l.mapM f with
   |none=>simp[hf,hr]at h
   |some zs=>
    simp[hf,hr]at h
    subst h
    obtain⟨h1,h2⟩:=qkr hr
    refine⟨by simp[h1],fun i x hx=>?_⟩
    cases i with
    |zero=>simp at hx;subst hx;exact⟨y,rfl,hf⟩
    |succ i=>simp at hx;obtain⟨z,h3,h4⟩:=h2 i x hx;exact⟨z,by simpa using h3,h4⟩
theorem q2s {base n:Nat}{a:Addr}{vs:List Value}(h:w.cells? base a n=some vs):vs.length=n∧∀(i:Nat) (v:Value),vs[i]?=some v→w.cell? (a.add i)=some v:=by
 unfold World.cells? at h
 split at h
 ·obtain⟨h1,h2⟩:=qkr h
  rw[List.length_range]at h1
  refine⟨h1,fun i v hv=>?_⟩
  have hi:i<n:=by rw[←h1];exact(List.getElem?_eq_some_iff.1 hv).1
  obtain⟨y,h3,h4⟩:=h2 i i (by rw[List.getElem?_range hi])
  rw[hv]at h3;cases h3;exact h4
 ·cases h
theorem qxg {ty:TypeId→List qa→Prop}:∀(fs:List Field) (vss:List (List Value)),vss.length=fs.length→(∀(i:Nat) (f:Field) (vs:List Value),fs[i]?=some f→vss[i]?=some vs→∃cs,RepL (.iso (Kw w)) cs vs∧ty f.type cs)→∃cs,RepL (.iso (Kw w)) cs vss.flatten∧qpi ty fs cs
 | [],vss,hl,_=>by
  have:vss=[]:=List.length_eq_zero_iff.1 (by simpa using hl)
  subst this
  exact⟨[],.nil,rfl⟩
 |f::fs,[],hl,_=>by simp at hl
 |f::fs,vs::vss,hl,h=>by
  obtain⟨ys,h1,h2⟩:=h 0 f vs rfl rfl
  obtain⟨zs,h3,h4⟩:=qxg fs vss (by simpa using hl) (fun i f' vs' hf hv=>h (i+1) f' vs' (by simpa using hf) (by simpa using hv))
  exact⟨ys++zs,RepL.append h1 h3,ys,zs,rfl,h2,h4⟩
theorem qvi {ty:List qa→Prop}:∀(k:Nat) (vss:List (List Value)),vss.length=k→(∀(i:Nat) vs,vss[i]?=some vs→∃cs,RepL (.iso (Kw w)) cs vs∧ty cs)→∃cs,RepL (.iso (Kw w)) cs vss.flatten∧qlc ty k cs
 |0,vss,hl,_=>by
  have:vss=[]:=List.length_eq_zero_iff.1 hl
  subst this
  exact⟨[],.nil,rfl⟩
 |k+1,[],hl,_=>by simp at hl
 |k+1,vs::vss,hl,h=>by
  obtain⟨ys,h1,h2⟩:=h 0 vs rfl
  obtain⟨zs,h3,h4⟩:=qvi k vss (by simpa using hl) (fun i vs' hv=>h (i+1) vs' (by simpa using hv))
  exact⟨ys++zs,RepL.append h1 h3,ys,zs,rfl,h2,h4⟩
theorem q54 (n:Nat):∀(k:Nat) (vs:List Value),vs.length=k*n→vs=((List.range k).map fun i=>(vs.drop (i*n)).take n).flatten
 |0,vs,hl=>by
  have:vs=[]:=List.length_eq_zero_iff.1 (by simpa using hl)
  simp[this]
 |k+1,vs,hl=>by
  have ih:=q54 n k (vs.drop n) (by simp[hl,Nat.succ_mul])
  rw[List.range_succ_eq_map,List.map_cons,List.flatten_cons,List.map_map]
  have e:(List.range k).map ((fun i=>(vs.drop (i*n)).take n) ∘ Nat.succ)=(List.range k).map fun i=>((vs.drop n).drop (i*n)).take n:=by
   apply List.map_congr_left
   intro i _
   simp only[Function.comp,List.drop_drop]
   congr 2
   rw[Nat.succ_mul];omega
  rw[e,←ih]
  simp
theorem qju:∀ {n:Nat} {t:TypeId} {cs:List qa},kx P n t cs→∀x∈cs,zj x=true
 |0,_,_,h=>h.elim
 |n+1,t,cs,h=>by
  have fsc:∀(fs:List Field) (cs:List qa),qpi (kx P n) fs cs→∀x∈cs,zj x=true:=by
   intro fs
   induction fs with
   |nil=>intro cs h;simp only[qpi]at h;subst h;simp
   |cons f fs ih=>
    rintro cs ⟨ys,zs,rfl,h1,h2⟩ x hx
    rcases List.mem_append.1 hx with hx|hx
    ·exact qju h1 x hx
    ·exact ih _ h2 x hx
  have rsc:∀(e:TypeId) (k:Nat) (cs:List qa),qlc (kx P n e) k cs→∀x∈cs,zj x=true:=by
   intro e k
   induction k with
   |zero=>intro cs h;simp only[qlc]at h;subst h;simp
   |succ k ih=>
    rintro cs ⟨ys,zs,rfl,h1,h2⟩ x hx
    rcases List.mem_append.1 hx with hx|hx
    ·exact qju h1 x hx
    ·exact ih _ h2 x hx
  simp only[kx]at h
  split at h
  ·obtain⟨b,rfl⟩:=h;simp[zj]
  ·obtain⟨m,rfl,_⟩:=h;simp[zj]
  ·obtain⟨s,rfl,_⟩:=h;simp[zj]
  ·rcases h with rfl|⟨xs,rfl,_⟩<;>simp[zj]
  ·exact fsc _ _ h
  ·exact rsc _ _ _ h
  ·exact h.elim
theorem qyj {n:Nat}{t:TypeId}{cs:List qa}(h:kx P n t cs)(ha:qe8 P t=false):∃x,cs=[x]∧x.isAgg=false:=by
 cases n with
 |zero=>exact h.elim
 |succ n=>
  unfold qe8 at ha
  simp only[kx]at h
  split at h
  ·obtain⟨b,rfl⟩:=h;exact⟨_,rfl,rfl⟩
  ·obtain⟨m,rfl,_⟩:=h;exact⟨_,rfl,rfl⟩
  ·obtain⟨s,rfl,_⟩:=h;exact⟨_,rfl,rfl⟩
  ·rcases h with rfl|⟨xs,rfl,_⟩<;>exact⟨_,rfl,rfl⟩
  ·rename_i hu;rw[hu]at ha;cases ha
  ·rename_i hu;rw[hu]at ha;cases ha
  ·exact h.elim
theorem read {held:Bool}:∀(n fuel:Nat) (t:TypeId) (vs:List Value) (d:DataW H) (ps:List MemPlace),qe5 P n t=true→DataW.trod enc P w 0 (fun _=>true) held fuel t vs=some (d,ps) →
  ∃cs,RepL (.iso (Kw w)) cs vs∧kx P n t cs∧cs.length=P.cellsOf t
 |0,_,_,_,_,_,hp,_=>by simp[qe5]at hp
 |n+1,0,_,_,_,_,_,h=>by simp[DataW.trod]at h
 |n+1,fuel+1,t,vs,d,ps,hp,h=>by
  simp only[qe5]at hp
  simp only[kx]
  simp only[DataW.trod]at h
  cases hu:P.underlying t with
  |none=>simp[hu]at hp
  |some td=>
   rw[hu]at h hp
   cases td with
   |bool=>
    simp only[beq_iff_eq]at hp
    split at h<;>first|cases ‹some _=some _› | skip
    all_goals first|(rename_i heq;cases heq;done)|skip
    ·exact⟨_,.cons _ _ _ _ (.bool _) .nil,⟨_,rfl⟩,by simp[hp]⟩
    ·cases h
   |int k=>
    simp only[beq_iff_eq]at hp
    split at h<;>first|cases ‹some _=some _› | skip
    all_goals first|(rename_i heq;cases heq;done)|skip
    ·split at h
     ·rename_i hk
      obtain⟨rfl,hk2⟩:=hk
      exact⟨_,.cons _ _ _ _ (.int _ _) .nil,⟨_,rfl,hk2⟩,by simp[hp]⟩
     ·cases h
    ·cases h
   |string=>
    simp only[beq_iff_eq]at hp
    split at h<;>first|cases ‹some _=some _› | skip
    all_goals first|(rename_i heq;cases heq;done)|skip
    ·rename_i s
     split at h
     ·rename_i hk
      refine⟨[.str s.data.toList],.cons _ _ _ _ (ql.str s.data.toList) .nil,⟨_,rfl,?_⟩,by simp[hp]⟩
      simpa using hk
     ·cases h
    ·cases h
   |slice e=>
    simp only[Bool.and_eq_true,beq_iff_eq,decide_eq_true_eq]at hp
    obtain⟨⟨hp1,hp2⟩,hp3⟩:=hp
    split at h<;>first|cases ‹some _=some _› | skip
    all_goals first|(rename_i heq;cases heq;done)|skip
    ·exact⟨_,.cons _ _ _ _ (.lnil 0) .nil,.inl rfl,by simp[hp1]⟩
    ·rename_i a len cap
     split at h
     ·rename_i hk
      obtain⟨_,hk2,hk3⟩:=hk
      cases he:(List.range len).mapM (fun i=>(w.cells? 0 (a.add (i*P.cellsOf e)) (P.cellsOf e)).bind (DataW.trod enc P w 0 (fun _=>true) held fuel e))with
      |none=>simp[he]at h
      |some elems=>
       simp only[he,Option.bind_some,if_true]at h
       cases hr:(List.range (cap-len)).mapM (fun j=>(w.cells? 0 (a.add ((len+j)*P.cellsOf e)) (P.cellsOf e)).bind (DataW.trod enc P w 0 (fun _=>true) held fuel e))with
       |none=>simp[hr]at h
       |some rest=>
        obtain⟨he1,he2⟩:=qkr he
        obtain⟨hr1,hr2⟩:=qkr hr
        rw[List.length_range]at he1 hr1
        have hspot:0<cap→a.spot=none:=fun hc=>by
         have hz0:∃z,(w.cells? 0 (a.add (0*P.cellsOf e)) (P.cellsOf e)).bind (DataW.trod enc P w 0 (fun _=>true) held fuel e)=some z:=by
          by_cases hl:0<len
          ·obtain⟨y,_,hy⟩:=he2 0 0 (by rw[List.getElem?_range hl]);exact⟨y,hy⟩
          ·obtain⟨y,_,hy⟩:=hr2 0 0 (by rw[List.getElem?_range (by omega)])
           have hl0:len=0:=by omega
           subst hl0
           exact⟨y,by simpa using hy⟩
         obtain⟨z0,hz0⟩:=hz0
         cases hc0:w.cells? 0 (a.add (0*P.cellsOf e)) (P.cellsOf e)with
         |none=>rw[hc0]at hz0;cases hz0
         |some us0=>
          obtain⟨d1,d2⟩:=q2s hc0
          have hcc:=d2 0 _ (List.getElem?_eq_getElem (show 0<us0.length by omega))
          have:=World.cell?_spot hcc
          simpa[Addr.add]using this
        by_cases hcap:0<cap
        ·have hs0:=hspot hcap
         obtain⟨r,o,sp⟩:=a
         simp only at hs0
         subst hs0
         have elem:∀(i:Nat),i<len→∃y:qa,RepC (.iso (Kw w)) r y.flat (o+i*P.cellsOf e)∧y.flat.length=P.cellsOf e∧kx P n e y.flat∧y.isAgg=qe8 P e:=by
          intro i hi
          obtain⟨z,_,hz⟩:=he2 i i (by rw[List.getElem?_range hi])
          cases hc:w.cells? 0 ((⟨r,o,none⟩:Addr).add (i*P.cellsOf e)) (P.cellsOf e)with
          |none=>simp[hc]at hz
          |some us=>
           simp only[hc,Option.bind_some]at hz
           obtain⟨c1,c2⟩:=q2s hc
           obtain⟨cs,k1,k2,k3⟩:=read n fuel e us z.1 z.2 hp2 hz
           have hone:=qdv k1 (qju k2)
           have hcs:RepC (.iso (Kw w)) r cs (o+i*P.cellsOf e):=RepC.of_vals k1 fun j v hj=>by
            have h1:=c2 j v hj
            rw[add_lit,add_lit]at h1
            exact jvm h1 (hone v (List.mem_of_getElem? hj))
           cases hag:qe8 P e with
           |true=>exact⟨.agg cs,hcs,k3,k2,rfl⟩
           |false=>
            obtain⟨x,rfl,hx⟩:=qyj k2 hag
            have hf:x.flat=[x]:=qc4 hx
            exact⟨x,by rw[hf];exact hcs,by rw[hf];exact k3,by rw[hf];exact k2,hx⟩
         have rows:∀(m:Nat) (q:Nat),q+m=len→∃ys:List qa,ys.length=m∧RepRow (.iso (Kw w)) r (P.cellsOf e) ys (o+q*P.cellsOf e)∧∀y∈ys,kx P n e y.flat∧y.isAgg=qe8 P e:=by
          intro m
          induction m with
          |zero=>intro q _;exact⟨[],rfl,.rnil _ _ _,by simp⟩
          |succ m ih=>
           intro q hq
           obtain⟨ys,y1,y2,y3⟩:=ih (q+1) (by omega)
           obtain⟨y,z1,z2,z3⟩:=elem q (by omega)
           refine⟨y::ys,by simp[y1],.rcons _ _ _ _ _ z2 z1 ?_,?_⟩
           ·rw[show o+q*P.cellsOf e+P.cellsOf e=o+(q+1)*P.cellsOf e from by rw[Nat.succ_mul];omega];exact y2
           ·intro x hx
            rcases List.mem_cons.1 hx with rfl|hx
            ·exact z3
            ·exact y3 x hx
         obtain⟨ys,y1,y2,y3⟩:=rows len 0 (by omega)
         rw[Nat.zero_mul,Nat.add_zero]at y2
         subst y1
         exact⟨_,.cons _ _ _ _ (.list (P.cellsOf e) ys r o cap hk2 y2) .nil,.inr ⟨ys,rfl,by omega,y3⟩,by simp[hp1]⟩
        ·have hc0:cap=0:=by omega
         have hl0:len=0:=by omega
         subst hc0;subst hl0
         by_cases hsp:a.spot=none
         ·obtain⟨r,o,sp⟩:=a
          simp only at hsp
          subst hsp
          exact⟨_,.cons _ _ _ _ (.list (P.cellsOf e) [] r o 0 (by simp) (.rnil _ _ _)) .nil,.inr ⟨[],rfl,by simp,by simp⟩,by simp[hp1]⟩
         ·exact⟨_,.cons _ _ _ _ (.lemp (P.cellsOf e) a hsp) .nil,.inr ⟨[],rfl,by simp,by simp⟩,by simp[hp1]⟩
     ·cases h
    ·cases h
   |struct fs=>
    simp only[Bool.and_eq_true,beq_iff_eq,List.all_eq_true]at hp
    obtain⟨⟨hp1,hp2⟩,hp3⟩:=hp
    change (if vs.length=P.cellsOf t then(fs.toList.mapM fun f=>DataW.trod enc P w 0 (fun _=>true) held fuel f.type ((vs.drop f.offset).take (P.cellsOf f.type))).map fun xs=>(DataW.agg (xs.map (·.1)),xs.flatMap (·.2))else none)=some (d,ps)at h
    ·split at h
     ·rename_i hl
      cases hm:fs.toList.mapM (fun f=>DataW.trod enc P w 0 (fun _=>true) held fuel f.type ((vs.drop f.offset).take (P.cellsOf f.type)))with
      |none=>simp[hm]at h
      |some zs=>
       obtain⟨m1,m2⟩:=qkr hm
       have hcut:=q0l fs.toList 0 vs hp1 (by omega)
       obtain⟨cs,k1,k2⟩:=qxg (w:=w) (ty:=kx P n) fs.toList (fs.toList.map fun f=>(vs.drop f.offset).take (P.cellsOf f.type)) (by simp) (fun i f us hf hv=>by
        obtain⟨z,_,hz⟩:=m2 i f hf
        have hus:us=(vs.drop f.offset).take (P.cellsOf f.type):=by
         rw[List.getElem?_map,hf]at hv
         simpa using hv.symm
        subst hus
        obtain⟨cs,q1,q2,_⟩:=read n fuel f.type _ z.1 z.2 (hp3 f (List.mem_of_getElem? hf)) hz
        exact⟨cs,q1,q2⟩)
       rw[←hcut]at k1
       exact⟨cs,by simpa using k1,k2,by have:=k1.length;simp at this;omega⟩
     ·cases h
   |array k e=>
    simp only[Bool.and_eq_true,beq_iff_eq]at hp
    obtain⟨hp1,hp2⟩:=hp
    change (if vs.length=P.cellsOf t then((List.range k).mapM fun i=>DataW.trod enc P w 0 (fun _=>true) held fuel e ((vs.drop (i*P.cellsOf e)).take (P.cellsOf e))).map fun xs=>(DataW.agg (xs.map (·.1)),xs.flatMap (·.2))else none)=some (d,ps)at h
    ·split at h
     ·rename_i hl
      cases hm:(List.range k).mapM (fun i=>DataW.trod enc P w 0 (fun _=>true) held fuel e ((vs.drop (i*P.cellsOf e)).take (P.cellsOf e)))with
      |none=>simp[hm]at h
      |some zs=>
       obtain⟨m1,m2⟩:=qkr hm
       have hcut:=q54 (P.cellsOf e) k vs (by omega)
       obtain⟨cs,k1,k2⟩:=qvi (w:=w) (ty:=kx P n e) k ((List.range k).map fun i=>(vs.drop (i*P.cellsOf e)).take (P.cellsOf e)) (by simp) (fun i us hv=>by
        have hi:i<k:=by
         have:=(List.getElem?_eq_some_iff.1 hv).1
         simpa using this
        obtain⟨z,_,hz⟩:=m2 i i (by rw[List.getElem?_range hi])
        have hus:us=(vs.drop (i*P.cellsOf e)).take (P.cellsOf e):=by
         rw[List.getElem?_map,List.getElem?_range hi]at hv
         simpa using hv.symm
        subst hus
        obtain⟨cs,q1,q2,_⟩:=read n fuel e _ z.1 z.2 hp2 hz
        exact⟨cs,q1,q2⟩)
       rw[←hcut]at k1
       exact⟨cs,k1,k2,by have:=k1.length;omega⟩
     ·cases h
   |_=>simp at hp
end
open Go.ChangeShapes Go.WideShapes Go.ChangeAt Go.RowKit
section
variable {P:Program}{H:Type}{enc:TypeId×Value→H}{w:World}
def jag (P:Program)(n:Nat)(t:TypeId)(x:qa):Prop:=kx P n t x.flat∧x.isAgg=qe8 P t
def qqa (P:Program)(n:Nat):List TypeId→List qa→Prop
 | [],xs=>xs=[]
 |t::ts,xs=>∃y ys,xs=y::ys∧jag P n t y∧qqa P n ts ys
theorem jhy {n:Nat}{t:TypeId}{v:Value}{d:DataW H}{ps:List MemPlace}{base:Nat}(hp:qe5 P n t=true)(hv:Value.okWide P w .any base t v)(h:DataW.Trod enc P w 0 (fun _=>true) true t v d ps):∃x,Rep (.iso (Kw w)) x v∧jag P n t x:=by
 obtain⟨fuel,hf⟩:=h
 obtain⟨cs,k1,k2,k3⟩:=read n fuel t _ d ps hp hf
 cases hag:qe8 P t with
 |true=>
  have hvv:∃cells,v=.agg cells:=by
   unfold qe8 at hag
   unfold Value.okWide at hv
   split at hag
   ·rename_i fs hu;rw[hu]at hv;obtain⟨c,hc,_⟩:=hv;exact⟨c,hc⟩
   ·rename_i a b hu;rw[hu]at hv;obtain⟨c,hc,_⟩:=hv;exact⟨c,hc⟩
   ·cases hag
  obtain⟨cells,rfl⟩:=hvv
  exact⟨.agg cs,.agg cs cells.toList k1,k2,hag.symm⟩
 |false=>
  obtain⟨x,rfl,hx⟩:=qyj k2 hag
  have hvv:v.cells.toList=[v]:=by
   cases v with
   |agg c=>
    exfalso
    unfold Value.okWide at hv
    unfold qe8 at hag
    cases n with
    |zero=>simp[qe5]at hp
    |succ n=>
     simp only[qe5]at hp
     cases hu:P.underlying t with
     |none=>rw[hu]at hp;cases hp
     |some td=>rw[hu]at hp hv hag;cases td<;>first|(simp at hp;done)|(simp at hag;done)|(simp[Cell.okWide,hu,Cell.ok]at hv;done)
   |_=>rfl
  rw[hvv]at k1
  cases k1 with
  |cons _ _ _ _ h1 _=>exact⟨x,h1,by rw[qc4 hx];exact k2,by rw[hx,hag]⟩
theorem q56 {n:Nat}:∀ {ts:List TypeId} {vs:List Value} {ds:List (DataW H)} {ps:List MemPlace},ts.all (qe5 P n)=true→(∀(j:Nat) t v,ts[j]?=some t→vs[j]?=some v→∃base,Value.okWide P w .any base t v)→DataW.TrodAll enc P w 0 (fun _=>true) true ts vs ds ps →
  ds.length=ts.length∧∃xs,RepL (.iso (Kw w)) xs vs∧qqa P n ts xs
 | [],[],[],ps,_,_,_=>⟨rfl,[],.nil,rfl⟩
 | [],[],_::_,ps,_,_,h=>by simp[DataW.TrodAll]at h
 | [],_::_,_,ps,_,_,h=>by simp[DataW.TrodAll]at h
 |_::_,[],_,ps,_,_,h=>by simp[DataW.TrodAll]at h
 |_::_,_::_,[],ps,_,_,h=>by simp[DataW.TrodAll]at h
 |t::ts,v::vs,d::ds,ps,hp,hv,h=>by
  obtain⟨p,q,h1,h2,_⟩:=h
  simp only[List.all_cons,Bool.and_eq_true]at hp
  obtain⟨base,hb⟩:=hv 0 t v rfl rfl
  obtain⟨x,k1,k2⟩:=jhy hp.1 hb h1
  obtain⟨hl,xs,k3,k4⟩:=q56 hp.2 (fun j t' v' ht hv'=>hv (j+1) t' v' (by simpa using ht) (by simpa using hv')) h2
  exact⟨by simp[hl],x::xs,.cons _ _ _ _ k1 k3,x,xs,rfl,k2,k4⟩
theorem Ext.frame {w':World}(h:Ext w w')(may:MemPlace→Prop):w.keptBut w' may:=by
 refine⟨h.os,h.output,fun i hi=>?_⟩
 rw[h.same i hi]
 split<;>simp_all
theorem Ext.sameAt {w':World}(h:Ext w w'){p:MemPlace}(hp:p.block<w.heap.size):w.sameAt w' p:=by
 cases p with
 |cell b o=>exact World.cell?_of_block (w:=w) (h.same b hp)
 |map b=>exact h.same b hp
theorem q3h {w':World}(hx:Ext w w')(hl:laidOutB P=true):∀ {ts:List TypeId} {vs:List Value} {ds:List (DataW H)} {ps:List MemPlace},ts.all (fun t=>P.readableRec t&&decide (t<P.types.size))=true→DataW.TrodAll enc P w 0 (fun _=>true) true ts vs ds ps →
  DataW.TrodAll enc P w' 0 (fun b=>decide (b<w.heap.size)) true ts vs ds ps
 | [],[],[],ps,_,h=>h
 | [],[],_::_,ps,_,h=>by simp[DataW.TrodAll]at h
 | [],_::_,_,ps,_,h=>by simp[DataW.TrodAll]at h
 |_::_,[],_,ps,_,h=>by simp[DataW.TrodAll]at h
 |_::_,_::_,[],ps,_,h=>by simp[DataW.TrodAll]at h
 |t::ts,v::vs,d::ds,ps,hr,h=>by
  obtain⟨p,q,h1,h2,h3⟩:=h
  simp only[List.all_cons,Bool.and_eq_true,decide_eq_true_eq]at hr
  have hlt:∀x∈p,x.block<w.heap.size:=by obtain⟨m,hm⟩:=h1;exact DataW.trod_lt m _ _ _ hm
  exact⟨p,q,WideElems.Trod_stays hl hr.1.1 hr.1.2 h1 (fun x hm=>hx.sameAt (hlt x hm)) (fun x hm=>by simpa using hlt x hm),q3h hx hl hr.2 h2,h3⟩
end
def XLe (f g:XC):Prop:=∀c st r,f c st=some r→g c st=some r
section
variable {p:qn}{f g:XC}
theorem q0r (h:XLe f g){af:qg}{args:List qa}{hp:zd}{r:qa×Bool×zd}(hr:qcr f af args hp=some r):qcr g af args hp=some r:=by
 unfold qcr at *
 cases hb:Nat.ble args.length af.ntmps with
 |false=>simp[hb]at hr
 |true=>
  simp only[hb,cT]at hr ⊢
  split at hr
  ·rename_i st hst;rw[h _ _ _ hst];exact hr
  ·rename_i st hst;rw[h _ _ _ hst];exact hr
  ·cases hr
theorem qnk (h:XLe f g){k:Nat}{args:List qa}{hp:zd}{r:qa×Bool×zd}(hr:yk p f k args hp=some r):yk p g k args hp=some r:=by
 unfold yk at *
 split at hr
 ·exact q0r h hr
 ·exact hr
theorem q2i (h:XLe f g){k:Nat}{args:List qa}{r:qa×Bool}(hr:j7 p f k args=some r):j7 p g k args=some r:=by
 unfold j7 at *
 split at hr
 ·exact hr
 ·split at hr
  ·rename_i v o hh hc;rw[qnk h hc];exact hr
  ·cases hr
theorem q3n (h:XLe f g){b:Nat}{args:List qa}{hp:zd}{r:qa×zd}(hr:qbm f b args hp=some r):qbm g b args hp=some r:=by
 unfold qbm at *
 split at hr
 ·split at hr
  ·split at hr
   ·rename_i st hst
    rw[h _ _ _ hst]
    simp only[]
    split at hr
    ·rename_i l1 hl1
     cases hp1:l1.pending.isNone with
     |false=>simp[hp1]at hr
     |true=>
      simp only[hp1,cT]at hr ⊢
      split at hr
      ·rename_i x st' hst'
       rw[h _ _ _ hst']
       exact hr
      ·cases hr
    ·cases hr
   ·cases hr
  ·cases hr
 ·cases hr
theorem q01 (h:XLe f g){h0:Nat}{e:Env}{hp:zd}{md:ja}{x:qf}{l:List qf}{r:qm}(hr:qa6 p f h0 e hp md x l=some r):qa6 p g h0 e hp md x l=some r:=by
 unfold qa6 at *
 split at hr
 ·cases md with
  |iso=>
   simp only[]at hr ⊢
   rename_i k first captured vs _ _
   cases hb:yq 0 (first++vs++captured)with
   |false=>rw[hb]at hr;cases hr
   |true=>
    rw[hb]at hr
    simp only[cT]at hr ⊢
    split at hr
    ·rename_i v o hc;rw[q2i h hc];exact hr
    ·cases hr
  |frz _=>exact hr
  |shr=>
   simp only[]at hr ⊢
   split at hr
   ·rename_i v o hh hc;rw[qnk h hc];exact hr
   ·cases hr
 ·cases md with
  |shr=>
   simp only[]at hr ⊢
   split at hr
   ·rename_i v hh hc;rw[q3n h hc];exact hr
   ·cases hr
  |_=>simp at hr
 ·cases hr
theorem q5p (h:XLe f g){h0:Nat}{al:Option (List Nat)}{e:Env}{hp:zd}{op:qt}{r:qm}(hr:j9 p f h0 al e hp op=some r):j9 p g h0 al e hp op=some r:=by
 cases op with
 |call md x l=>exact q01 h hr
 |append rk sz b x y=>cases rk<;>exact hr
 |mkslice rk sz b z n c=>cases rk<;>exact hr
 |_=>exact hr
theorem qrs (h:XLe f g){h0:Nat}{o:qo}{st st':qc}(hr:qat p f h0 o st=some st'):qat p g h0 o st=some st':=by
 unfold qat at *
 split at hr
 ·split at hr
  ·rename_i r hs;rw[q5p h hs];exact hr
  ·cases hr
 ·exact hr
 ·cases hr
theorem qtf (h:XLe f g){h0:Nat}:∀ {l:List qo} {st st':qc},qb0 p f h0 l st=some st'→qb0 p g h0 l st=some st'
 | [],_,_,hr=>hr
 |o::l,st,st',hr=>by
  simp only[qb0]at hr ⊢
  split at hr
  ·rename_i s1 h1;rw[qrs h h1];exact qtf h hr
  ·cases hr
theorem qsi (h:XLe f g){na:Nat}{l:List qo}{k:Option (List Nat)}{st:qc}{r:qi×qc}(hr:qce p f na l k st=some r):qce p g na l k st=some r:=by
 unfold qce at *
 split at hr
 ·rename_i s1 h1;rw[qtf h h1];exact hr
 ·cases hr
theorem qvm (h:XLe f g){x:qf}{ps:List Nat}{a b:qe}{st:qc}{r:qi×qc}(hr:qc6 p f x ps a b st=some r):qc6 p g x ps a b st=some r:=by
 unfold qc6 at *
 cases hn:(qac a&&qac b)with
 |false=>simp[hn]at hr
 |true=>
  simp only[hn,cT]at hr ⊢
  split at hr
  ·split at hr
   ·rename_i v o hh hc;rw[qnk h hc];exact hr
   ·cases hr
  ·cases hr
end
theorem qw8 (p:qn):∀n,XLe (ye p n) (ye p (n+1))
 |0=>fun c st r h=>by simp[ye]at h
 |n+1=>by
  have ih:=qw8 p n
  intro c st r h
  cases c with
  |region na l k=>simp only[ye]at h ⊢;exact qsi ih h
  |rangeFunc f ps a b=>simp only[ye]at h ⊢;exact qvm ih h
  |seq a b=>
   rw[ye]at h ⊢
   split at h
   ·rename_i st1 h1
    rw[ih _ _ _ h1];exact ih _ _ _ h
   ·rename_i hne
    rw[ih _ _ _ h]
    split
    ·rename_i st1 h1;cases h1;exact absurd h (hne _)
    ·rfl
  |cond c a b=>
   rw[ye]at h ⊢
   split at h
   ·rename_i t ht
    cases t
    ·simp only[cF]at h ⊢;exact ih _ _ _ h
    ·simp only[cT]at h ⊢;exact ih _ _ _ h
   ·cases h
  |block id b=>
   rw[ye]at h ⊢
   split at h
   ·rename_i id' st1 h1
    rw[ih _ _ _ h1];exact h
   ·rename_i hne
    rw[ih _ _ _ h]
    split
    ·rename_i id' st1 h1;cases h1;exact absurd h (hne _ _)
    ·rfl
  |loop b=>
   rw[ye]at h ⊢
   split at h
   ·rename_i st1 h1
    rw[ih _ _ _ h1];exact ih _ _ _ h
   ·rename_i hne
    rw[ih _ _ _ h]
    split
    ·rename_i st1 h1;cases h1;exact absurd h (hne _)
    ·rfl
  |_=>exact h
theorem qdo (p:qn){n m:Nat}(h:n≤m):XLe (ye p n) (ye p m):=by
 induction h with
 |refl=>exact fun _ _ _ h=>h
 |step _ ih=>exact fun c st r hr=>qw8 p _ c st r (ih c st r hr)
open Classical in
noncomputable def X (p:qn):XC:=fun c st=>if h:∃r n,ye p n c st=some r then some (Classical.choose h)else none
theorem qas {p:qn}{c:qe}{st:qc}{r:qi×qc}:X p c st=some r↔∃n,ye p n c st=some r:=by
 unfold X
 constructor
 ·intro h
  split at h
  ·rename_i hh
   cases h
   exact Classical.choose_spec hh
  ·cases h
 ·rintro ⟨n,hn⟩
  have hh:∃r n,ye p n c st=some r:=⟨r,n,hn⟩
  rw[dif_pos hh]
  obtain⟨m,hm⟩:=Classical.choose_spec hh
  have h1:=qdo p (Nat.le_max_left n m) _ _ _ hn
  have h2:=qdo p (Nat.le_max_right n m) _ _ _ hm
  rw[h1]at h2
  exact h2.symm
theorem qjx {p:qn}(n:Nat):XLe (ye p n) (X p):=fun _ _ _ h=>qas.2 ⟨n,h⟩
section
variable {p:qn}
theorem q1y {af:qg}{args:List qa}{hp:zd}{r:qa×Bool×zd}(hr:qcr (X p) af args hp=some r):∃n,qcr (ye p n) af args hp=some r:=by
 have hr0:=hr
 unfold qcr at hr
 cases hb:Nat.ble args.length af.ntmps with
 |false=>simp[hb]at hr
 |true=>
  simp only[hb,cT]at hr
  have key:∀ {r'},X p af.body ⟨qbr 0 args,hp⟩=some r'→∃n,qcr (ye p n) af args hp=some r:=by
   intro r' h
   obtain⟨n,hn⟩:=qas.1 h
   refine⟨n,?_⟩
   unfold qcr
   rw[hb,hn]
   rw[h]at hr
   exact hr
  split at hr
  ·rename_i st hst;exact key hst
  ·rename_i st hst;exact key hst
  ·cases hr
theorem qqb {k:Nat}{args:List qa}{hp:zd}{r:qa×Bool×zd}(hr:yk p (X p) k args hp=some r):∃n,yk p (ye p n) k args hp=some r:=by
 unfold yk at *
 cases h:p.fns k with
 |none=>rw[h]at hr;exact⟨0,hr⟩
 |some f=>rw[h]at hr;exact q1y hr
theorem qvh {k:Nat}{args:List qa}{r:qa×Bool}(hr:j7 p (X p) k args=some r):∃n,j7 p (ye p n) k args=some r:=by
 unfold j7 at *
 cases h:p.prims k with
 |some f=>rw[h]at hr;exact⟨0,hr⟩
 |none=>
  rw[h]at hr
  simp only[]at hr ⊢
  split at hr
  ·rename_i v o hh hc
   obtain⟨n,hn⟩:=qqb hc
   exact⟨n,by rw[hn];exact hr⟩
  ·cases hr
theorem q44 {b:Nat}{args:List qa}{hp:zd}{r:qa×zd}(hr:qbm (X p) b args hp=some r):∃n,qbm (ye p n) b args hp=some r:=by
 unfold qbm at hr
 split at hr
 ·rename_i l hl
  split at hr
  ·rename_i e hpn hse
   split at hr
   ·rename_i st hst
    split at hr
    ·rename_i l1 hl1
     cases hp1:l1.pending.isNone with
     |false=>simp[hp1]at hr
     |true=>
      simp only[hp1,cT]at hr
      split at hr
      ·rename_i x st' hst'
       obtain⟨n,hn⟩:=qas.1 hst
       obtain⟨m,hm⟩:=qas.1 hst'
       refine⟨max n m,?_⟩
       have h1:=qdo p (Nat.le_max_left n m) _ _ _ hn
       have h2:=qdo p (Nat.le_max_right n m) _ _ _ hm
       simp only[qbm,hl,hpn,hse,h1,hl1,hp1,cT,h2]
       exact hr
      ·cases hr
    ·cases hr
   ·cases hr
  ·cases hr
 ·cases hr
theorem q3t {h0:Nat}{e:Env}{hp:zd}{md:ja}{x:qf}{l:List qf}{r:qm}(hr:qa6 p (X p) h0 e hp md x l=some r):∃n,qa6 p (ye p n) h0 e hp md x l=some r:=by
 unfold qa6 at hr
 split at hr
 ·rename_i k first captured vs e1 e2
  cases md with
  |iso=>
   simp only[]at hr
   cases hb:yq 0 (first++vs++captured)with
   |false=>rw[hb]at hr;cases hr
   |true=>
    rw[hb]at hr
    simp only[cT]at hr
    split at hr
    ·rename_i v o hc
     obtain⟨n,hn⟩:=qvh hc
     refine⟨n,?_⟩
     simp only[qa6,e1,e2,hn]
     rw[hb]
     exact hr
    ·cases hr
  |frz _=>exact⟨0,by simp only[qa6,e1,e2];exact hr⟩
  |shr=>
   simp only[]at hr
   split at hr
   ·rename_i v o hh hc
    obtain⟨n,hn⟩:=qqb hc
    refine⟨n,?_⟩
    simp only[qa6,e1,e2,hn]
    exact hr
   ·cases hr
 ·rename_i b vs e1 e2
  cases md with
  |shr=>
   simp only[]at hr
   split at hr
   ·rename_i v hh hc
    obtain⟨n,hn⟩:=q44 hc
    refine⟨n,?_⟩
    simp only[qa6,e1,e2,hn]
    exact hr
   ·cases hr
  |_=>simp at hr
 ·cases hr
theorem q7g {h0:Nat}{al:Option (List Nat)}{e:Env}{hp:zd}{op:qt}{r:qm}(hr:j9 p (X p) h0 al e hp op=some r):∃n,j9 p (ye p n) h0 al e hp op=some r:=by
 cases op with
 |call md x l=>exact q3t hr
 |append rk sz b x y=>cases rk<;>exact⟨0,hr⟩
 |mkslice rk sz b z n c=>cases rk<;>exact⟨0,hr⟩
 |_=>exact⟨0,hr⟩
theorem q22 {h0:Nat}{o:qo}{st st':qc}(hr:qat p (X p) h0 o st=some st'):∃n,qat p (ye p n) h0 o st=some st':=by
 unfold qat at *
 cases hg:qco st.env o.guard with
 |none=>simp[hg]at hr
 |some b=>
  rw[hg]at hr
  cases b with
  |false=>exact⟨0,hr⟩
  |true=>
   simp only[]at hr ⊢
   split at hr
   ·rename_i r hs
    obtain⟨n,hn⟩:=q7g hs
    exact⟨n,by rw[hn];exact hr⟩
   ·cases hr
theorem q2p {h0:Nat}:∀ {l:List qo} {st st':qc},qb0 p (X p) h0 l st=some st'→∃n,qb0 p (ye p n) h0 l st=some st'
 | [],_,_,hr=>⟨0,hr⟩
 |o::l,st,st',hr=>by
  simp only[qb0]at hr
  split at hr
  ·rename_i s1 h1
   obtain⟨n,hn⟩:=q22 h1
   obtain⟨m,hm⟩:=q2p hr
   refine⟨max n m,?_⟩
   simp only[qb0]
   rw[qrs (qdo p (Nat.le_max_left n m)) hn]
   exact qtf (qdo p (Nat.le_max_right n m)) hm
  ·cases hr
theorem q40 {na:Nat}{l:List qo}{k:Option (List Nat)}{st:qc}{r:qi×qc}(hr:qce p (X p) na l k st=some r):∃n,qce p (ye p n) na l k st=some r:=by
 unfold qce at hr
 split at hr
 ·rename_i s1 h1
  obtain⟨n,hn⟩:=q2p h1
  exact⟨n,by unfold qce;rw[hn];exact hr⟩
 ·cases hr
theorem q63 {x:qf}{ps:List Nat}{a b:qe}{st:qc}{r:qi×qc}(hr:qc6 p (X p) x ps a b st=some r):∃n,qc6 p (ye p n) x ps a b st=some r:=by
 unfold qc6 at hr
 cases hn:(qac a&&qac b)with
 |false=>simp[hn]at hr
 |true=>
  simp only[hn,cT]at hr
  split at hr
  ·rename_i k first captured hev
   split at hr
   ·rename_i v o hh hc
    obtain⟨n,hn'⟩:=qqb hc
    refine⟨n,?_⟩
    unfold qc6
    rw[hn,hev]
    simp only[cT]
    rw[hn']
    exact hr
   ·cases hr
  ·cases hr
theorem qho {α:Type}{x y:Option α}(h1:∀r,x=some r→y=some r)(h2:∀r,y=some r→x=some r):x=y:=by
 cases x with
 |none=>
  cases y with
  |none=>rfl
  |some r=>exact(h2 r rfl)
 |some r=>exact(h1 r rfl).symm
theorem jmn {st:qc}:X p .skip st=some (.normal,st):=qas.2 ⟨1,rfl⟩
theorem jkv {id:Nat}{st:qc}:X p (.exit id) st=some (.exit id,st):=qas.2 ⟨1,rfl⟩
theorem jrw {st:qc}:X p .ret st=some (.ret,st):=qas.2 ⟨1,rfl⟩
theorem jds {na:Nat}{l:List qo}{k:Option (List Nat)}{st:qc}:X p (.region na l k) st=qce p (X p) na l k st:=by
 refine qho (fun r h=>?_) (fun r h=>?_)
 ·obtain⟨n,hn⟩:=qas.1 h
  cases n with
  |zero=>simp[ye]at hn
  |succ n=>simp only[ye]at hn;exact qsi (qjx n) hn
 ·obtain⟨n,hn⟩:=q40 h
  exact qas.2 ⟨n+1,by simp only[ye];exact hn⟩
theorem qzz {x:qf}{ps:List Nat}{a b:qe}{st:qc}:X p (.rangeFunc x ps a b) st=qc6 p (X p) x ps a b st:=by
 refine qho (fun r h=>?_) (fun r h=>?_)
 ·obtain⟨n,hn⟩:=qas.1 h
  cases n with
  |zero=>simp[ye]at hn
  |succ n=>simp only[ye]at hn;exact qvm (qjx n) hn
 ·obtain⟨n,hn⟩:=q63 h
  exact qas.2 ⟨n+1,by simp only[ye];exact hn⟩
theorem jwp {a b:qe}{st:qc}:X p (.seq a b) st=match X p a st with
  |some (.normal,st')=>X p b st'
  |r=>r:=by
 refine qho (fun r h=>?_) (fun r h=>?_)
 ·obtain⟨n,hn⟩:=qas.1 h
  cases n with
  |zero=>simp[ye]at hn
  |succ n=>
   rw[ye]at hn
   split at hn
   ·rename_i st1 h1;rw[qjx n _ _ _ h1];exact qjx n _ _ _ hn
   ·rename_i hne
    rw[qjx n _ _ _ hn]
    split
    ·rename_i st1 h1;cases h1;exact absurd hn (hne _)
    ·rfl
 ·split at h
  ·rename_i st1 h1
   obtain⟨n,hn⟩:=qas.1 h1
   obtain⟨m,hm⟩:=qas.1 h
   refine qas.2 ⟨max n m+1,?_⟩
   rw[ye,qdo p (Nat.le_max_left n m) _ _ _ hn]
   exact qdo p (Nat.le_max_right n m) _ _ _ hm
  ·rename_i hne
   obtain⟨n,hn⟩:=qas.1 h
   refine qas.2 ⟨n+1,?_⟩
   rw[ye,hn]
   split
   ·rename_i st1 h1;cases h1;exact absurd h (hne _)
   ·rfl
theorem jlv {c:qf}{a b:qe}{st:qc}:X p (.cond c a b) st=match zc st.env c with
  |some (.bool t)=>bif t then X p a st else X p b st
  |_=>none:=by
 refine qho (fun r h=>?_) (fun r h=>?_)
 ·obtain⟨n,hn⟩:=qas.1 h
  cases n with
  |zero=>simp[ye]at hn
  |succ n=>
   rw[ye]at hn
   split at hn
   ·rename_i t ht
    rw[ht]
    cases t
    ·simp only[cF]at hn ⊢;exact qjx n _ _ _ hn
    ·simp only[cT]at hn ⊢;exact qjx n _ _ _ hn
   ·cases hn
 ·split at h
  ·rename_i t ht
   cases t
   ·simp only[cF]at h
    obtain⟨n,hn⟩:=qas.1 h
    exact qas.2 ⟨n+1,by rw[ye,ht];exact hn⟩
   ·simp only[cT]at h
    obtain⟨n,hn⟩:=qas.1 h
    exact qas.2 ⟨n+1,by rw[ye,ht];exact hn⟩
  ·cases h
theorem jgt {id:Nat}{b:qe}{st:qc}:X p (.block id b) st=match X p b st with
  |some (.exit id',st')=>bif Nat.beq id' id then some (.normal,st')else some (.exit id',st')
  |r=>r:=by
 refine qho (fun r h=>?_) (fun r h=>?_)
 ·obtain⟨n,hn⟩:=qas.1 h
  cases n with
  |zero=>simp[ye]at hn
  |succ n=>
   rw[ye]at hn
   split at hn
   ·rename_i id' st1 h1;rw[qjx n _ _ _ h1];exact hn
   ·rename_i hne
    rw[qjx n _ _ _ hn]
    split
    ·rename_i id' st1 h1;cases h1;exact absurd hn (hne _ _)
    ·rfl
 ·split at h
  ·rename_i id' st1 h1
   obtain⟨n,hn⟩:=qas.1 h1
   exact qas.2 ⟨n+1,by rw[ye,hn];exact h⟩
  ·rename_i hne
   obtain⟨n,hn⟩:=qas.1 h
   refine qas.2 ⟨n+1,?_⟩
   rw[ye,hn]
   split
   ·rename_i id' st1 h1;cases h1;exact absurd h (hne _ _)
   ·rfl
theorem jkm {b:qe}{st:qc}:X p (.loop b) st=match X p b st with
  |some (.normal,st')=>X p (.loop b) (gc st.heap.length st')
  |r=>r:=by
 refine qho (fun r h=>?_) (fun r h=>?_)
 ·obtain⟨n,hn⟩:=qas.1 h
  cases n with
  |zero=>simp[ye]at hn
  |succ n=>
   rw[ye]at hn
   split at hn
   ·rename_i st1 h1;rw[qjx n _ _ _ h1];exact qjx n _ _ _ hn
   ·rename_i hne
    rw[qjx n _ _ _ hn]
    split
    ·rename_i st1 h1;cases h1;exact absurd hn (hne _)
    ·rfl
 ·split at h
  ·rename_i st1 h1
   obtain⟨n,hn⟩:=qas.1 h1
   obtain⟨m,hm⟩:=qas.1 h
   refine qas.2 ⟨max n m+1,?_⟩
   rw[ye,qdo p (Nat.le_max_left n m) _ _ _ hn]
   exact qdo p (Nat.le_max_right n m) _ _ _ hm
  ·rename_i hne
   obtain⟨n,hn⟩:=qas.1 h
   refine qas.2 ⟨n+1,?_⟩
   rw[ye,hn]
   split
   ·rename_i st1 h1;cases h1;exact absurd h (hne _)
   ·rfl
theorem jj0 {sz:Nat}{st:qc}:X p (.grow sz) st=match look 0 st.env,look 1 st.env with
   |some (.list true _ _,_),some (.int .i64 (.ofNat m),_)=>bif Nat.blt 0 m&&Nat.ble m 1073741824 then some (.normal,{ st with env:=[(0,.list false sz [],true)] })else none
   |_,_=>none:=by
 refine qho (fun r h=>?_) (fun r h=>?_)
 ·obtain⟨n,hn⟩:=qas.1 h
  cases n with
  |zero=>simp[ye]at hn
  |succ n=>simp only[ye]at hn;exact hn
 ·exact qas.2 ⟨1,by simp only[ye];exact h⟩
theorem qvy {P:Program}(hp':qu P p){k:Nat}{args:List qa}{v:qa}{ow:Bool}(h:j7 p (X p) k args=some (v,ow))(hb:yq 0 args=true):qa3 P k args v ow:=by
 obtain⟨n,hn⟩:=qvh h
 exact q6w hp' hn hb
end
def qdf:qa→Bool
 | .bool _=>true
 | .int _ _=>true
 | .str _=>true
 |_=>false
def q2u (s:Nat)(st:qc):Option qc:=
 match st.heap,look s st.env with
 | [],some (.list false sz xs,true)=>bif Nat.beq sz 1&&xs.all qdf&&st.env.all (fun y=>Nat.beq y.1 s||qdf y.2.1)then
   some ⟨(s,.ms 0 0 xs.length,false)::st.env,[.cells (cellsOf xs)]⟩else none
 |_,_=>none
def qix (sz:Nat):Nat→List qa→List qa
 |0,_=>[]
 |n+1,cs=>(bif Nat.beq sz 1 then cs.headD .undef else .agg (cs.take sz))::qix sz n (cs.drop sz)
def qr4 (s sz:Nat)(st:qc):Option qc:=
 match st.heap,look s st.env with
 | [.cells cs],some (.ms 0 0 len,_)=>bif Nat.beq (len*sz) cs.length&&Nat.blt 0 sz&&cs.all (fun c=>below 0 c.1&&!c.1.isAgg)&&st.env.all (fun y=>Nat.beq y.1 s||below 0 y.2.1)then
   some ⟨(s,.list false sz (qix sz len (cs.map (·.1))),false)::st.env,[]⟩else none
 |_,_=>none
inductive jb where
 |code (c:qe)
 |seq (a b:jb)
 |cond (c:qf) (a b:jb)
 |block (id:Nat) (b:jb)
 |loop (b:jb)
 |thaw (s:Nat) (c:jb)
 |shut (s sz:Nat) (c:jb)
def jb.erase:jb→qe
 | .code c=>c
 | .seq a b=>.seq a.erase b.erase
 | .cond c a b=>.cond c a.erase b.erase
 | .block id b=>.block id b.erase
 | .loop b=>.loop b.erase
 | .thaw _ c=>c.erase
 | .shut _ _ c=>c.erase
def qwx:qe→Bool
 | .skip=>true
 |_=>false
inductive qx (p:qn):jb→qc→qi→qc→Prop where
 |code {c st x st'} (h:X p c st=some (x,st')):qx p (.code c) st x st'
 |seqN {a b st st1 x st'} (hs:qwx b.erase=false) (h:qx p a st .normal st1) (k:qx p b st1 x st'):qx p (.seq a b) st x st'
 |seqX {a b st x st'} (hs:qwx b.erase=false) (h:qx p a st x st') (hx:x≠.normal):qx p (.seq a b) st x st'
 |condT {c a b st x st'} (hc:zc st.env c=some (.bool true)) (h:qx p a st x st'):qx p (.cond c a b) st x st'
 |condF {c a b st x st'} (hc:zc st.env c=some (.bool false)) (h:qx p b st x st'):qx p (.cond c a b) st x st'
 |blockE {id b st st'} (h:qx p b st (.exit id) st'):qx p (.block id b) st .normal st'
 |qlw {id b st x st'} (h:qx p b st x st') (hx:x≠.exit id):qx p (.block id b) st x st'
 |loopN {b st st1 x st'} (h:qx p b st .normal st1) (k:qx p (.loop b) (gc st.heap.length st1) x st'):qx p (.loop b) st x st'
 |qmw {b st x st'} (h:qx p b st x st') (hx:x≠.normal):qx p (.loop b) st x st'
 |thaw {s c st st1 x st'} (ht:q2u s st=some st1) (h:qx p c st1 x st'):qx p (.thaw s c) st x st'
 |shut {s sz c st st1 x st'} (ht:qr4 s sz st=some st1) (h:qx p c st1 x st'):qx p (.shut s sz c) st x st'
theorem qwj {s:Nat}{x:qa×Bool}:∀ {e:Env},look s e=some x→(s,x)∈e
 | [],h=>by simp[look]at h
 |(t,y)::e,h=>by
  simp only[look]at h
  cases hb:Nat.beq t s with
  |true=>
   rw[hb]at h
   simp only[cT,Option.some.injEq]at h
   have:=Nat.eq_of_beq_eq_true hb
   subst this;subst h
   exact List.mem_cons_self ..
  |false=>
   rw[hb]at h
   exact List.mem_cons_of_mem _ (qwj h)
theorem qz0 {C C':Ctx}{x:qa}{v:Value}(hp:qdf x=true)(h:Rep C x v):Rep C' x v:=by
 cases x<;>simp only[qdf,Bool.false_eq_true]at hp<;>cases h<;>constructor
theorem q7k {x:qa}(hp:qdf x=true):x.flat=[x]:=by
 cases x<;>simp only[qdf,Bool.false_eq_true]at hp<;>rfl
theorem jbf {C:Ctx}{ω:Nat→Option Loc}{w:World}{B:Nat}{ℓ:Loc}{x:qa}{v:Value}(hp:qdf x=true):OwnV C ω w B ℓ x v:=by
 cases x<;>simp only[qdf,Bool.false_eq_true]at hp<;>trivial
theorem jg8 {P:Program}{K:Nat→Nat→Option Value}{C:Ctx}{ω:Nat→Option Loc}{w0 w:World}{env:Env}{tmps:Array Value}{s:Nat}{xs:List qa}
  (hK:∀r o u,K r o=some u→w0.cell? ⟨r,o,none⟩=some u) (m:MInv P C ω w0 (.iso K) [] w) (e:EnvRel C ω w w0.heap.size env tmps)
  (hs:look s env=some (.list false 1 xs,true)) (hx:xs.all qdf=true) (hv:(env.all fun y=>Nat.beq y.1 s||qdf y.2.1)=true):
  ∃C',C'.D=C.D∧(Ctx.iso K).le C'∧MInv P C' ω w0 (.iso K) [.cells (cellsOf xs)] w∧EnvRel C' ω w w0.heap.size ((s,.ms 0 0 xs.length,false)::env) tmps:=by
 obtain⟨v,hv1,hv2,hv3⟩:=e s _ hs
 have ho:=hv3 rfl
 have hpl:∀x∈xs,qdf x=true:=fun x hx'=>List.all_eq_true.1 hx x hx'
 have hKlt:∀r o u,K r o=some u→r<w0.heap.size:=by
  intro r o u h
  have h1:=hK r o u h
  unfold World.cell? at h1
  split at h1
  ·rename_i c _ _ hc;exact(Array.getElem?_eq_some_iff.1 hc).1
  ·cases h1
 cases hv2 with
 |lemp sz a hsp=>
  simp only[OwnV]at ho
  exact absurd ho.2.2.2.1 hsp
 |list sz _ r o cap hl hr=>
  simp only[OwnV]at ho
  obtain⟨o1,o2,o3,_,o5,⟨cells,elem,o6,o7⟩,o8⟩:=ho
  subst o5
  have hW:C.W=fun _=>False:=m.grown.w
  have hB:w0.heap.size≤r:=o2.resolve_right (by rw[hW];exact fun h=>h)
  have hlt:r<w.heap.size:=(Array.getElem?_eq_some_iff.1 o6).1
  let C':Ctx:={ C with K:=fun q o=>if q=r then none else C.K q o,β:=fun b=>if b=0 then some r else none }
  have hβ:∀ {b q},C'.β b=some q→b=0∧q=r:=by
   intro b q hb
   simp only[C']at hb
   split at hb
   ·exact⟨by assumption,by cases hb;rfl⟩
   ·cases hb
  have hK':∀ {q o u},C'.K q o=some u→q≠r∧C.K q o=some u:=by
   intro q o u h
   simp only[C']at h
   split at h
   ·cases h
   ·exact⟨by assumption,h⟩
  have hle:(Ctx.iso K).le C':=by
   refine⟨fun q o u h=>?_,(fun b q h=>by cases h),m.grown.w,m.grown.d⟩
   have:=hKlt q o u h
   have hne:q≠r:=by omega
   simp only[C',if_neg hne]
   exact m.grown.k q o u h
  refine⟨C',rfl,hle,?_,?_⟩
  ·exact {
    base:=m.base
    know:=fun q o u h=>m.know q o u (hK' h).2
    kone:=fun q o u h=>m.kone q o u (hK' h).2
    apart:=fun b q o h=>by obtain⟨_,rfl⟩:=hβ h;simp[C']
    inj:=fun b b' q h h'=>by rw[(hβ h).1,(hβ h').1]
    lt:=fun b q h=>by obtain⟨rfl,rfl⟩:=hβ h;exact⟨hlt,by simp⟩
    size:=m.size
    frame:=m.frame
    dfr:=m.dfr
    os:=m.os
    output:=m.output
    fresh:=fun b q h=>by obtain⟨_,rfl⟩:=hβ h;exact .inr (.inl hB)
    grown:=hle
    old:=fun q o hq hw=>by
     have hne:q≠r:=by omega
     simp only[C',if_neg hne]
     exact m.old q o hq hw
    box:=fun b x q hx' h=>by
     obtain⟨rfl,rfl⟩:=hβ h
     simp only[List.getElem?_cons_zero,Option.some.injEq]at hx'
     subst hx'
     have hlen:(cellsOf xs).length=xs.length:=by simp[cellsOf]
     refine⟨cells,elem,o6,by omega,?_⟩
     intro j c hc
     simp only[cellsOf,List.getElem?_map,Option.map_eq_some_iff]at hc
     obtain⟨y,hy,rfl⟩:=hc
     have hyp:=hpl y (List.mem_of_getElem? hy)
     have hcell:=RepRow.get hr hy
     rw[q7k hyp]at hcell
     have h1:=RepC.get hcell (i:=0) (x:=y) rfl
     obtain⟨u,k1,k2⟩:=h1
     have k1':C.K q j=some u:=by simpa using k1
     have k3:=m.know q j u k1'
     unfold World.cell? at k3
     rw[o6]at k3
     simp only[Option.isSome_none,Bool.false_eq_true,if_false]at k3
     exact⟨u,k3,m.kone q j u k1',qz0 hyp k2,fun h=>by simp at h⟩ }
  ·intro t x ht
   by_cases hts:t=s
   ·subst hts
    rw[qci]at ht
    cases ht
    exact⟨_,hv1,.ms 0 0 xs.length r cap (by simp[C']) hl,fun h=>by simp at h⟩
   ·rw[qdu hts]at ht
    obtain⟨u,k1,k2,_⟩:=e t x ht
    have hmem:=List.all_eq_true.1 hv _ (qwj ht)
    have hpx:qdf x.1=true:=by
     simp only[Bool.or_eq_true]at hmem
     rcases hmem with h|h
     ·exact absurd (Nat.eq_of_beq_eq_true h) hts
     ·exact h
    exact⟨u,k1,qz0 hpx k2,fun _=>jbf hpx⟩
theorem jdn {P:Program}{p:qn}(hp:qu P p):qyu P (X p):=by
 intro ρ nt c ca st st' x hc hn hx
 obtain⟨n,hx'⟩:=qas.1 hx
 exact(quh hp n).1 ρ nt c ca st st' x hc hn hx'
def StI (P:Program)(w0:World)(K:Nat→Nat→Option Value)(nt:Nat)(st:qc)(a:Act)(w:World):Prop:=
 a.tmps.size=nt∧∃C' ω',Marks C' w0.heap.size a.defers∧MInv P C' ω' w0 (.iso K) st.heap w∧EnvRel C' ω' w w0.heap.size st.env a.tmps
def qu7 (P:Program)(w0:World)(K:Nat→Nat→Option Value)(nt:Nat)(x:qi)(st':qc):Exit→Act→World→Prop:=fun e a' w'=>e=qlm x∧StI P w0 K nt st' a' w'
theorem StOk.toI {P:Program}{w0:World}{K:Nat→Nat→Option Value}{C:Ctx}{nt:Nat}{st:qc}{a:Act}{w:World}(h:StOk P w0 (.iso K) C nt st a w):StI P w0 K nt st a w:=by
 obtain⟨h1,C',ω',_,h2,h3,h4⟩:=h
 exact⟨h1,C',ω',h2,h3,h4⟩
theorem jbi {P:Program}{K:Nat→Nat→Option Value}{w0 w:World}{nt s:Nat}{st st':qc}{a:Act}(hK:∀r o u,K r o=some u→w0.cell? ⟨r,o,none⟩=some u)(ht:q2u s st=some st')(h:StI P w0 K nt st a w):StI P w0 K nt st' a w:=by
 unfold q2u at ht
 split at ht
 ·rename_i sz xs hh hs
  cases hb:(Nat.beq sz 1&&xs.all qdf&&st.env.all (fun y=>Nat.beq y.1 s||qdf y.2.1))with
  |false=>rw[hb]at ht;cases ht
  |true=>
   rw[hb]at ht
   simp only[cT,Option.some.injEq]at ht
   subst ht
   simp only[Bool.and_eq_true]at hb
   obtain⟨⟨b1,b2⟩,b3⟩:=hb
   have:=Nat.eq_of_beq_eq_true b1
   subst this
   obtain⟨hsz,C',ω',⟨rs,hmk1,hmk2,hmk3⟩,m,e⟩:=h
   rw[hh]at m
   obtain⟨C2,q1,q2,q3,q4⟩:=jg8 hK m e hs b2 b3
   exact⟨hsz,C2,ω',⟨rs,hmk1,hmk2,fun r hr=>by rw[q1];exact hmk3 r hr⟩,q3,q4⟩
 ·cases ht
theorem OwnV.closeUp {C C':Ctx}{ω:Nat→Option Loc}{w:World}{B:Nat}{ℓ:Loc}{x:qa}{v:Value}(h:OwnV C ω w B ℓ x v)(hβ:∀ {r} b,C'.β b≠some r)(hW:C'.W=C.W)(hK:∀r,(∀b,C.β b≠some r)→∀o,C.K r o=none→C'.K r o=none):OwnV C' ω w B ℓ x v:=by
 unfold OwnV at *
 split at h
 ·obtain⟨g1,g2,g3,g4,g5,g6,g7⟩:=h
  exact⟨g1,by rw[hW];exact g2,fun b=>hβ b,g4,g5,g6,fun o ho=>hK _ g3 o (g7 o ho)⟩
 ·trivial
theorem q3y {C:Ctx}{r:Nat}:∀ {ys:List qa} {o:Nat},(∀j x,ys[j]?=some x→∃v,C.K r (o+j)=some v∧Rep C x v)→RepC C r ys o
 | [],o,_=>.cnil _ _
 |x::ys,o,h=>by
  obtain⟨v,h1,h2⟩:=h 0 x rfl
  refine .ccons _ _ _ _ v (by simpa using h1) h2 (q3y fun j y hy=>?_)
  obtain⟨v,k1,k2⟩:=h (j+1) y (by simpa using hy)
  exact⟨v,by rw[show o+1+j=o+(j+1) by omega];exact k1,k2⟩
theorem qww {C:Ctx}{r sz:Nat}(hz:0<sz):∀ {n:Nat} {xs:List qa} {o:Nat},xs.length=n*sz→(∀x∈xs,x.isAgg=false)→(∀j x,xs[j]?=some x→∃v,C.K r (o+j)=some v∧Rep C x v)→RepRow C r sz (qix sz n xs) o
 |0,xs,o,_,_,_=>.rnil _ _ _
 |n+1,xs,o,hl,hp,h=>by
  rw[Nat.succ_mul]at hl
  have hf:(bif Nat.beq sz 1 then xs.headD .undef else qa.agg (xs.take sz)).flat=xs.take sz:=by
   cases hb:Nat.beq sz 1 with
   |false=>rfl
   |true=>
    have:=Nat.eq_of_beq_eq_true hb
    subst this
    match xs,hl with
    |x::xs,_=>simp only[cT,List.headD_cons];rw[qc4 (hp x (List.mem_cons_self ..))];rfl
  refine .rcons _ _ _ _ _ ?_ ?_ (qww hz ?_ (fun x hx=>hp x (List.mem_of_mem_drop hx)) fun j x hx=>?_)
  ·rw[hf,List.length_take];omega
  ·rw[hf]
   refine q3y fun j x hx=>h j x ?_
   rw[List.getElem?_take]at hx
   split at hx
   ·exact hx
   ·cases hx
  ·rw[List.length_drop];omega
  ·rw[List.getElem?_drop]at hx
   obtain⟨v,k1,k2⟩:=h _ x hx
   exact⟨v,by rw[Nat.add_assoc];exact k1,k2⟩
theorem qjt {sz:Nat}:∀ {n:Nat} {xs:List qa},(qix sz n xs).length=n
 |0,_=>rfl
 |n+1,xs=>by simp only[qix,List.length_cons];rw[qjt]
theorem q9k {P:Program}{K:Nat→Nat→Option Value}{w0 w:World}{nt s sz:Nat}{st st':qc}{a:Act}(hK:∀r o u,K r o=some u→w0.cell? ⟨r,o,none⟩=some u)(ht:qr4 s sz st=some st')(h:StI P w0 K nt st a w):StI P w0 K nt st' a w:=by
 unfold qr4 at ht
 split at ht
 ·rename_i cs len ow hh hs
  cases hb:(Nat.beq (len*sz) cs.length&&Nat.blt 0 sz&&cs.all (fun c=>below 0 c.1&&!c.1.isAgg)&&st.env.all (fun y=>Nat.beq y.1 s||below 0 y.2.1))with
  |false=>rw[hb]at ht;cases ht
  |true=>
   rw[hb]at ht
   simp only[cT,Option.some.injEq]at ht
   subst ht
   simp only[Bool.and_eq_true]at hb
   obtain⟨⟨⟨b1,b0⟩,b2⟩,b3⟩:=hb
   have b1:=Nat.eq_of_beq_eq_true b1
   have b0:0<sz:=by simpa using b0
   obtain⟨hsz,C,ω,⟨rs,hmk1,hmk2,hmk3⟩,m,e⟩:=h
   rw[hh]at m
   obtain⟨v,hv1,hv2,_⟩:=e s _ hs
   cases hv2 with
   |ms b o ln r cap hβ hl=>
    obtain⟨vs,elem,k1,k2,k3⟩:=m.box 0 (.cells cs) r rfl hβ
    have hlt:r<w.heap.size:=(m.lt 0 r hβ).1
    have hB:w0.heap.size≤r:=by
     rcases m.fresh 0 r hβ with h|h|h
     ·cases h
     ·exact h
     ·exact h.elim
    have hKlt:∀r o u,K r o=some u→r<w0.heap.size:=by
     intro r o u h
     have h1:=hK r o u h
     unfold World.cell? at h1
     split at h1
     ·rename_i c _ _ hc;exact(Array.getElem?_eq_some_iff.1 hc).1
     ·cases h1
    let C':Ctx:={ C with K:=fun q o=>if q=r then(if o<cs.length then vs[o]? else none)else C.K q o,β:=fun _=>none }
    have hKr:∀o,C.K r o=none:=fun o=>m.apart 0 r o hβ
    have hle:∀q o u,C.K q o=some u→C'.K q o=some u:=by
     intro q o u h
     have hne:q≠r:=fun hq=>by subst hq;rw[hKr]at h;cases h
     simp only[C',if_neg hne];exact h
    have hC'r:∀ {o u},C'.K r o=some u→o<cs.length∧vs[o]?=some u:=by
     intro o u h
     simp only[C',if_true]at h
     split at h
     ·exact⟨by assumption,h⟩
     ·cases h
    have hcell:∀j x,cs[j]?=some x→∃u,C'.K r j=some u∧u.oneCell'=true∧Rep C x.1 u:=by
     intro j x hx
     obtain⟨u,q1,q2,q3,_⟩:=k3 j x hx
     have hj:j<cs.length:=(List.getElem?_eq_some_iff.1 hx).1
     exact⟨u,by simp only[C',if_true,if_pos hj];exact q1,q2,q3⟩
    have hpl:∀x∈cs,below 0 x.1=true∧x.1.isAgg=false:=fun x hx=>by simpa using List.all_eq_true.1 b2 x hx
    refine⟨hsz,C',ω,⟨rs,hmk1,hmk2,fun r hr=>hmk3 r hr⟩,?_,?_⟩
    ·exact {
      base:=m.base
      know:=fun q o u h=>by
       by_cases hq:q=r
       ·subst hq
        obtain⟨_,h2⟩:=hC'r h
        unfold World.cell?
        rw[k1];simpa using h2
       ·simp only[C',if_neg hq]at h;exact m.know q o u h
      kone:=fun q o u h=>by
       by_cases hq:q=r
       ·subst hq
        obtain⟨h1,h2⟩:=hC'r h
        obtain⟨x,hx⟩:∃x,cs[o]?=some x:=⟨cs[o],by simp[h1]⟩
        obtain⟨u',q1,q2,_⟩:=hcell o x hx
        rw[h]at q1;cases q1;exact q2
       ·simp only[C',if_neg hq]at h;exact m.kone q o u h
      apart:=fun b q o h=>by cases h
      inj:=fun b b' q h=>by cases h
      lt:=fun b q h=>by cases h
      size:=m.size
      frame:=m.frame
      dfr:=m.dfr
      os:=m.os
      output:=m.output
      fresh:=fun b q h=>by cases h
      grown:=⟨fun q o u h=>hle q o u (m.grown.k q o u h),(fun b q h=>by cases h),m.grown.w,m.grown.d⟩
      old:=fun q o hq hw=>by
       have hne:q≠r:=by omega
       simp only[C',if_neg hne]
       exact m.old q o hq hw
      box:=fun b x q _ h=>by cases h }
    ·intro t x ht
     by_cases hts:t=s
     ·subst hts
      rw[qci]at ht
      cases ht
      refine⟨_,hv1,?_,fun h=>by simp at h⟩
      have hrow:RepRow C' r sz (qix sz len (cs.map (·.1))) 0:=by
       refine qww b0 (by rw[List.length_map];exact b1.symm) (fun x hx=>?_) fun j x hx=>?_
       ·obtain⟨c,hc,rfl⟩:=List.mem_map.1 hx;exact(hpl c hc).2
       ·simp only[List.getElem?_map,Option.map_eq_some_iff]at hx
        obtain⟨c,hc,rfl⟩:=hx
        obtain⟨u,q1,_,q3⟩:=hcell j c hc
        exact⟨u,by simpa using q1,ql.shift 0 hle (fun b q hb=>by omega) q3 (hpl c (List.mem_of_getElem? hc)).1⟩
      have:=ql.list (C:=C') sz (qix sz len (cs.map (·.1))) r 0 cap (by rw[qjt];exact hl) hrow
      rw[qjt]at this
      exact this
     ·rw[qdu hts]at ht
      obtain⟨u,q1,q2,q3⟩:=e t x ht
      have hmem:=List.all_eq_true.1 b3 _ (qwj ht)
      have hpx:below 0 x.1=true:=by
       simp only[Bool.or_eq_true]at hmem
       rcases hmem with h|h
       ·exact absurd (Nat.eq_of_beq_eq_true h) hts
       ·exact h
      refine⟨u,q1,ql.shift 0 hle (fun b q hb=>by omega) q2 hpx,fun ho=>?_⟩
      exact(q3 ho).closeUp (fun b h=>by cases h) rfl fun q hq o ho'=>by
       have hne:q≠r:=fun hh=>hq 0 (by rw[hh];exact hβ)
       simp only[C',if_neg hne]
       exact ho'
 ·cases ht
theorem StI.gc {P:Program}{w0:World}{K:Nat→Nat→Option Value}{nt n:Nat}{st:qc}{a:Act}{w:World}(h:StI P w0 K nt st a w):StI P w0 K nt (Abs.gc n st) a w:=by
 obtain⟨h1,C',ω',h2,h3,h4⟩:=h
 unfold Abs.gc
 cases hb:Nat.ble st.heap.length n with
 |true=>exact⟨h1,C',ω',h2,h3,h4⟩
 |false=>
  simp only[cF]
  cases hb2:(qa9 n st.env&&yt n (st.heap.take n))with
  |false=>exact⟨h1,C',ω',h2,h3,h4⟩
  |true=>
   simp only[cT]
   simp only[Bool.and_eq_true]at hb2
   have hn:n≤st.heap.length:=by
    rcases Nat.lt_or_ge n st.heap.length with h|h
    ·omega
    ·rw[Nat.ble_eq_true_of_le h]at hb;cases hb
   exact⟨h1,C'.cut n,ω',⟨h2.choose,h2.choose_spec.1,h2.choose_spec.2.1,h2.choose_spec.2.2⟩,h3.gc hn hb2.2 (fun b r h=>by cases h),h4.cut hb2.1⟩
theorem qm9 {P:Program}{J:Act→World→Prop}{w0:World}{K:Nat→Nat→Option Value}{nt:Nat}{x:qi}{st':qc}{Q:Exit→Act→World→Prop}{e:Exit}{a:Act}{w:World}(h:qu7 P w0 K nt x st' e a w)(hn:x=.normal→StI P w0 K nt st' a w→J a w)(ho:x≠.normal→StI P w0 K nt st' a w→Q (qlm x) a w):Exit.then J Q e a w:=by
 obtain⟨rfl,h⟩:=h
 cases x with
 |normal=>exact hn rfl h
 |exit id=>exact ho (by simp) h
 |ret=>exact ho (by simp) h
theorem q13 {P:Program}{nt:Nat}{c:Code}{x y:qe}(hc:qdy P nt c (.seq x y))(hs:qwx y=false):∃c1 c2,c=.seq c1 c2∧qdy P nt c1 x∧qdy P nt c2 y:=by
 obtain⟨hh,h⟩:=hc
 cases c with
 |seq c1 c2=>
  simp only[km]at h
  split at h
  ·rename_i x1 x2 k1 k2
   cases h
   exact⟨c1,c2,rfl,⟨hh,k1⟩,⟨hh,k2⟩⟩
  ·cases h
 |scope b=>
  simp only[km,Option.map_eq_some_iff,qe.seq.injEq]at h
  obtain⟨b',k1,rfl,rfl⟩:=h
  simp[qwx]at hs
 |region id ops draw=>
  simp only[km]at h
  split at h
  ·cases h
  ·unfold qfm at h
   split at h
   ·split at h<;>cases h
   ·cases h
 |cond x c1 c2=>
  simp only[km]at h
  split at h<;>cases h
 |rangeFunc f ps x1 x2=>
  simp only[km]at h
  split at h
  ·split at h<;>cases h
  ·cases h
 |block id b=>simp[km]at h
 |loop b=>simp[km]at h
 |_=>simp[km]at h
theorem qz5 {P:Program}{nt:Nat}{c:Code}{v:qf}{x y:qe}(hc:qdy P nt c (.cond v x y)):∃u c1 c2,c=.cond u c1 c2∧zx u=some v∧qdy P nt c1 x∧qdy P nt c2 y:=by
 obtain⟨hh,h⟩:=hc
 cases c with
 |cond u c1 c2=>
  simp only[km]at h
  split at h
  ·rename_i v' x1 x2 k0 k1 k2
   cases h
   exact⟨u,c1,c2,rfl,k0,⟨hh,k1⟩,⟨hh,k2⟩⟩
  ·cases h
 |region id ops draw=>
  simp only[km]at h
  split at h
  ·cases h
  ·unfold qfm at h
   split at h
   ·split at h<;>cases h
   ·cases h
 |seq c1 c2=>
  simp only[km]at h
  split at h<;>cases h
 |rangeFunc f ps x1 x2=>
  simp only[km]at h
  split at h
  ·split at h<;>cases h
  ·cases h
 |scope b=>simp[km]at h
 |block id b=>simp[km]at h
 |loop b=>simp[km]at h
 |_=>simp[km]at h
theorem qx6 {P:Program}{nt id:Nat}{c:Code}{x:qe}(hc:qdy P nt c (.block id x)):∃c1,c=.block id c1∧qdy P nt c1 x:=by
 obtain⟨hh,h⟩:=hc
 cases c with
 |block id' b=>
  simp only[km,Option.map_eq_some_iff,qe.block.injEq]at h
  obtain⟨b',k1,rfl,rfl⟩:=h
  exact⟨b,rfl,hh,k1⟩
 |region id ops draw=>
  simp only[km]at h
  split at h
  ·cases h
  ·unfold qfm at h
   split at h
   ·split at h<;>cases h
   ·cases h
 |seq c1 c2=>
  simp only[km]at h
  split at h<;>cases h
 |cond x c1 c2=>
  simp only[km]at h
  split at h<;>cases h
 |rangeFunc f ps x1 x2=>
  simp only[km]at h
  split at h
  ·split at h<;>cases h
  ·cases h
 |scope b=>simp[km]at h
 |loop b=>simp[km]at h
 |_=>simp[km]at h
theorem jbg {P:Program}{nt:Nat}{c:Code}{x:qe}(hc:qdy P nt c (.loop x)):∃c1,c=.loop c1∧qdy P nt c1 x:=by
 obtain⟨hh,h⟩:=hc
 cases c with
 |loop b=>
  simp only[km,Option.map_eq_some_iff,qe.loop.injEq]at h
  obtain⟨b',k1,rfl⟩:=h
  exact⟨b,rfl,hh,k1⟩
 |region id ops draw=>
  simp only[km]at h
  split at h
  ·cases h
  ·unfold qfm at h
   split at h
   ·split at h<;>cases h
   ·cases h
 |seq c1 c2=>
  simp only[km]at h
  split at h<;>cases h
 |cond x c1 c2=>
  simp only[km]at h
  split at h<;>cases h
 |rangeFunc f ps x1 x2=>
  simp only[km]at h
  split at h
  ·split at h<;>cases h
  ·cases h
 |scope b=>simp[km]at h
 |block id b=>simp[km]at h
 |_=>simp[km]at h
theorem j3a {P:Program}{p:qn}(hp:qu P p){nt:Nat}{K:Nat→Nat→Option Value}{w0:World}(hK:∀r o u,K r o=some u→w0.cell? ⟨r,o,none⟩=some u){g:jb}{st st':qc}{x:qi}(h:qx p g st x st'):
  (∀c,qdy P nt c g.erase→∀(a:Act) (w:World),StI P w0 K nt st a w→c.wpIn (qbd none) 0 P (qu7 P w0 K nt x st') a w) ∧
  (∀b,g=.loop b→∀c,qdy P nt c b.erase→∀(a:Act) (w:World),StI P w0 K nt st a w→LoopWp none P c (qu7 P w0 K nt x st') a w):=by
 have ofLoop:∀ {b:jb} {st st':qc} {x:qi},(∀c,qdy P nt c b.erase→∀(a:Act) (w:World),StI P w0 K nt st a w→LoopWp none P c (qu7 P w0 K nt x st') a w) →
   (∀c,qdy P nt c (jb.loop b).erase→∀(a:Act) (w:World),StI P w0 K nt st a w→c.wpIn (qbd none) 0 P (qu7 P w0 K nt x st') a w) ∧
   (∀b',jb.loop b=.loop b'→∀c,qdy P nt c b'.erase→∀(a:Act) (w:World),StI P w0 K nt st a w→LoopWp none P c (qu7 P w0 K nt x st') a w):=by
  intro b st st' x h
  refine⟨fun c hc a w hst=>?_,fun b' hb=>by cases hb;exact h⟩
  obtain⟨c1,rfl,k1⟩:=jbg hc
  exact(h c1 k1 a w hst).wpIn
 induction h with
 |code hc=>
  refine⟨fun c hcp a w hst=>?_,fun b hb=>by cases hb⟩
  obtain⟨hsz,C',ω',hm,m,e⟩:=hst
  refine wpIn_mono (jdn hp none nt c _ _ _ _ hcp (fun h=>absurd rfl h) hc C' w0 (.iso K) a w ⟨hsz,C',ω',Ctx.le_refl _,hm,m,e⟩) ?_
  rintro e a' w' ⟨rfl,hq⟩
  exact⟨rfl,hq.toI⟩
 |seqN hs h k ih1 ih2=>
  refine⟨fun c hcp a w hst=>?_,fun b hb=>by cases hb⟩
  obtain⟨c1,c2,rfl,k1,k2⟩:=q13 hcp hs
  exact wpIn_seq (wpIn_mono (ih1.1 c1 k1 a w hst) fun e a' w' hq=>qm9 hq (fun _ h1=>ih2.1 c2 k2 a' w' h1) (fun hh=>absurd rfl hh))
 |seqX hs h hx ih1=>
  refine⟨fun c hcp a w hst=>?_,fun b hb=>by cases hb⟩
  obtain⟨c1,c2,rfl,k1,k2⟩:=q13 hcp hs
  exact wpIn_seq (wpIn_mono (ih1.1 c1 k1 a w hst) fun e a' w' hq=>qm9 hq (fun hh=>absurd hh hx) (fun _ h1=>⟨rfl,h1⟩))
 |condT hc h ih=>
  refine⟨fun c hcp a w hst=>?_,fun b hb=>by cases hb⟩
  obtain⟨u,c1,c2,rfl,k0,k1,k2⟩:=qz5 hcp
  have hst':=hst
  obtain⟨_,_,_,_,_,e⟩:=hst
  exact wpIn_cond (t:=true) (zy e.rep k0 hc).bool_inv (ih.1 c1 k1 a w hst')
 |condF hc h ih=>
  refine⟨fun c hcp a w hst=>?_,fun b hb=>by cases hb⟩
  obtain⟨u,c1,c2,rfl,k0,k1,k2⟩:=qz5 hcp
  have hst':=hst
  obtain⟨_,_,_,_,_,e⟩:=hst
  exact wpIn_cond (t:=false) (zy e.rep k0 hc).bool_inv (ih.1 c2 k2 a w hst')
 |blockE h ih=>
  refine⟨fun c hcp a w hst=>?_,fun b hb=>by cases hb⟩
  obtain⟨c1,rfl,k1⟩:=qx6 hcp
  refine wpIn_block (wpIn_mono (ih.1 c1 k1 a w hst) ?_)
  rintro e a' w' ⟨rfl,hst1⟩
  simp only[qlm,Exit.inBlock,if_true]
  exact⟨rfl,hst1⟩
 |qlw h hx ih=>
  refine⟨fun c hcp a w hst=>?_,fun b hb=>by cases hb⟩
  obtain⟨c1,rfl,k1⟩:=qx6 hcp
  refine wpIn_block (wpIn_mono (ih.1 c1 k1 a w hst) ?_)
  rename_i id _ _ x _
  rintro e a' w' ⟨rfl,hst1⟩
  cases x with
  |normal=>exact⟨rfl,hst1⟩
  |ret=>exact⟨rfl,hst1⟩
  |exit id'=>
   have hne:¬id'=id:=fun hh=>hx (by rw[hh])
   simp only[qlm,Exit.inBlock,hne,if_false]
   exact⟨rfl,hst1⟩
 |loopN h k ih1 ih2=>
  refine ofLoop fun c hc a w hst=>LoopWp.of_body (wpIn_mono (ih1.1 c hc a w hst) fun e a' w' hq=>qm9 hq (fun _ h1=>?_) (fun hh=>absurd rfl hh))
  exact ih2.2 _ rfl c hc a' w' h1.gc
 |qmw h hx ih1=>
  exact ofLoop fun c hc a w hst=>LoopWp.of_body (wpIn_mono (ih1.1 c hc a w hst) fun e a' w' hq=>qm9 hq (fun hh=>absurd hh hx) (fun _ h1=>⟨rfl,h1⟩))
 |thaw ht h ih=>exact⟨fun c hcp a w hst=>ih.1 c hcp a w (jbi hK ht hst),fun b hb=>by cases hb⟩
 |shut ht h ih=>exact⟨fun c hcp a w hst=>ih.1 c hcp a w (q9k hK ht hst),fun b hb=>by cases hb⟩
theorem qpw {P:Program}{p:qn}(hp:qu P p){k:Nat}{f:qg}{g:jb}{args:List qa}{st:qc}{x:qi}{v:qa}{xs:List (qa×Bool)}(hf:p.fns k=some f)(hg:f.body=g.erase)(hlen:args.length≤f.ntmps)
  (hrun:qx p g ⟨qbr 0 args,[]⟩ x st) (hx:x=.normal∨x=.ret) (hres:qaj st f.results=some xs) (hfz:freezeR (qa8 st f.results) (yx xs).1=some v) (hpv:qet v=true):qa3 P k args v false:=by
 obtain⟨fn,hh,hfn,hcf⟩:=hp.fn k f hf
 obtain⟨c,hbd,h1,h2,h3,_⟩:=qwl hcf
 intro K w vs ht hK hK1 hargs
 have m0:=qwn (P:=P) ht hK hK1
 have hvl:=hargs.length
 refine callsIn_of_wp_marks hfn hbd trivial ?_
 have hsz:((⟨vs⟩:Array Value)++Array.replicate (fn.ntmps-(⟨vs⟩:Array Value).size) undef).size=fn.ntmps:=by
  simp;omega
 have henv:EnvRel (.iso K) (fun _=>none) w w.heap.size (qbr 0 args) ((⟨vs⟩:Array Value)++Array.replicate (fn.ntmps-(⟨vs⟩:Array Value).size) undef):=by
  intro s x hx
  obtain⟨j,rfl,hj,hf⟩:=qnt hx
  obtain⟨u,k1,k2⟩:=hargs.get hj
  have hlt:j<vs.length:=(List.getElem?_eq_some_iff.1 k1).1
  refine⟨u,?_,k2,by simp[hf]⟩
  rw[Nat.zero_add,Array.getElem?_append_left (by simpa using hlt)]
  simpa using k1
 refine wpIn_mono ((j3a hp (nt:=fn.ntmps) (K:=K) (w0:=w) hK hrun).1 c ⟨hh,by rw[←hg];exact h1⟩ _ w ⟨hsz,.iso K,_,Marks.nil,m0,henv⟩) ?_
 rintro e a' w' ⟨rfl,q1,C',ω',⟨rs,hds,hnd,hrs⟩,m',e'⟩
 have fin:LeavesInM Fence.wide 0 P fn a'.tmps (fun e w'=>∃u K',e=.returned u∧Ext w w'∧(∀r o x,K r o=some x→K' r o=some x)∧(∀r o,r<w.heap.size→K' r o=K r o) ∧
   (∀r o x,K' r o=some x→w'.cell? ⟨r,o,none⟩=some x)∧(∀r o x,K' r o=some x→x.oneCell'=true)∧Rep (.iso K') v u ∧
   (false=true→∃ℓ ω',OwnV (.iso K') ω' w' w.heap.size ℓ v u)) a'.defers .returning w':=by
  rw[hds]
  refine qsf (C:=.iso K) (ω:=ω') (w0:=w) (hp:=st.heap) (env:=st.env) rs C' w' m'.grown m' e' hnd hrs (fun k hk=>hk.elim) ?_
  intro C2 w2 hle2 _ m2 e2
  obtain⟨u,ω2,k1,k2,k3,k4⟩:=qvb (fn:=fn) m2 e2 h2 hres
  refine⟨u,k1,u,qa4 C2 w2,rfl,?_,fun r o x hr=>qkc k2 (hle2.1 r o x hr),fun r o hr=>?_,fun r o x hr=>(qgu k2 hr).1,fun r o x hr=>(qgu k2 hr).2,qvs k2 hfz k3 hpv,fun h=>by cases h⟩
  ·exact⟨k2.size,fun r hr=>k2.frame r hr (by simp[Ctx.iso]) (by simp[Ctx.iso]),k2.os,k2.output⟩
  ·have hold:=k2.old r o hr (by simp[Ctx.iso])
   unfold qa4
   rw[if_neg]
   ·exact hold
   rintro ⟨b,hb⟩
   rcases k2.fresh b r hb with h|h|h
   ·cases h
   ·omega
   ·exact h.elim
 rcases hx with rfl|rfl
 ·exact fin
 ·exact fin
section
variable {P:Program}
theorem Tabs.table {w:World}(h:Tabs P w){g:Nat}(hg:P.globalNamed qcn=some g):Lib.TabIs P w qcn .u64 Lib.pow10Tab:=(h g (.inl hg)).2.1 hg
theorem Tabs.length {w:World}(h:Tabs P w){g:Nat}(hg:P.globalNamed qhw=some g):∃m,w.cell? ⟨g,0,Option.none⟩=some (.int .i64 m):=(h g (.inr (.inl hg))).2.2.1 hg
theorem q0j {k:Nat}{args:List qa}{v:qa}(h:∀(K:Nat→Nat→Option Value) (w:World) (vs:List Value),Tabs P w→(∀r o u,K r o=some u→w.cell? ⟨r,o,none⟩=some u)→RepL (.iso K) args vs →
  ∃u,Rep (.iso K) v u∧Calls P k ⟨vs⟩ w fun e w'=>e=.returned u∧Ext w w'):qa3 P k args v false:=by
 intro K w vs ht h1 h2 hr
 obtain⟨u,hu,hc⟩:=h K w vs ht h1 hr
 refine callsIn_wide.2 (hc.mono ?_)
 rintro e w' ⟨rfl,hx⟩
 exact⟨u,K,rfl,hx,fun _ _ _ h=>h,fun _ _ _=>rfl,fun r o x hk=>hx.cell (h1 r o x hk),h2,hu,fun h=>by cases h⟩
end
open Go
def qla:List UInt8→List UInt8→Bool
 | [],[]=>true
 |a::l,b::m=>bif Nat.beq a.toNat b.toNat then qla l m else false
 |_,_=>false
theorem qro:∀ {l m:List UInt8},qla l m=true→l=m
 | [],[],_=>rfl
 | [],_::_,h=>by simp[qla]at h
 |_::_,[],h=>by simp[qla]at h
 |a::l,b::m,h=>by
  simp only[qla,Bool.cond_eq_ite]at h
  split at h
  ·next hb=>rw[UInt8.toNat_inj.1 (Nat.eq_of_beq_eq_true hb),qro h]
  ·exact absurd h (by simp)
def q1q:Int→Int→Bool
 | .ofNat a,.ofNat b=>Nat.beq a b
 | .negSucc a,.negSucc b=>Nat.beq a b
 |_,_=>false
theorem q46:∀ {a b:Int},q1q a b=true→a=b
 | .ofNat _,.ofNat _,h=>by rw[Nat.eq_of_beq_eq_true h]
 | .negSucc _,.negSucc _,h=>by rw[Nat.eq_of_beq_eq_true h]
 | .ofNat _,.negSucc _,h=>by simp[q1q]at h
 | .negSucc _,.ofNat _,h=>by simp[q1q]at h
mutual
def eqV:qa→qa→Bool
 | .bool a,.bool b=>a == b
 | .int k a,.int k' b=>bif decide (k=k')then q1q a b else false
 | .str a,.str b=>qla a b
 | .list a n xs,.list b m ys=>bif a == b then bif Nat.beq n m then eqL xs ys else false else false
 | .agg xs,.agg ys=>eqL xs ys
 | .tup xs,.tup ys=>eqL xs ys
 |_,_=>false
def eqL:List qa→List qa→Bool
 | [],[]=>true
 |a::l,b::m=>bif eqV a b then eqL l m else false
 |_,_=>false
end
mutual
theorem jbc:∀ {a b:qa},eqV a b=true→a=b:=by
 intro a b h
 match a,b with
 | .bool _,.bool _=>simp only[eqV,beq_iff_eq]at h;rw[h]
 | .int k a,.int k' b=>
  simp only[eqV,Bool.cond_eq_ite,decide_eq_true_eq]at h
  split at h
  ·next hk=>rw[hk,q46 h]
  ·exact absurd h (by simp)
 | .str _,.str _=>simp only[eqV]at h;rw[qro h]
 | .list a n xs,.list b m ys=>
  simp only[eqV,Bool.cond_eq_ite,beq_iff_eq]at h
  split at h
  ·next h1=>
   split at h
   ·next h2=>rw[h1,Nat.eq_of_beq_eq_true h2,qiu h]
   ·exact absurd h (by simp)
  ·exact absurd h (by simp)
 | .agg _,.agg _=>simp only[eqV]at h;rw[qiu h]
 | .tup _,.tup _=>simp only[eqV]at h;rw[qiu h]
 | .bool _,.int .. | .bool _,.str _ | .bool _,.list .. | .bool _,.agg _ | .bool _,.tup _=>simp[eqV]at h
 | .int ..,.bool _ | .int ..,.str _ | .int ..,.list .. | .int ..,.agg _ | .int ..,.tup _=>simp[eqV]at h
 | .str _,.bool _ | .str _,.int .. | .str _,.list .. | .str _,.agg _ | .str _,.tup _=>simp[eqV]at h
 | .list ..,.bool _ | .list ..,.int .. | .list ..,.str _ | .list ..,.agg _ | .list ..,.tup _=>simp[eqV]at h
 | .agg _,.bool _ | .agg _,.int .. | .agg _,.str _ | .agg _,.list .. | .agg _,.tup _=>simp[eqV]at h
 | .tup _,.bool _ | .tup _,.int .. | .tup _,.str _ | .tup _,.list .. | .tup _,.agg _=>simp[eqV]at h
 | .ms ..,_ | .ptr ..,_ | .vptr _,_ | .nilptr,_ | .map _,_ | .nilmap,_ | .fn ..,_ | .nilfn,_ | .undef,_=>simp[eqV]at h
 | .bool _,.ms .. | .bool _,.ptr .. | .bool _,.vptr _ | .bool _,.nilptr | .bool _,.map _ | .bool _,.nilmap | .bool _,.fn .. | .bool _,.nilfn | .bool _,.undef=>simp[eqV]at h
 | .int ..,.ms .. | .int ..,.ptr .. | .int ..,.vptr _ | .int ..,.nilptr | .int ..,.map _ | .int ..,.nilmap | .int ..,.fn .. | .int ..,.nilfn | .int ..,.undef=>simp[eqV]at h
 | .str ..,.ms .. | .str ..,.ptr .. | .str ..,.vptr _ | .str ..,.nilptr | .str ..,.map _ | .str ..,.nilmap | .str ..,.fn .. | .str ..,.nilfn | .str ..,.undef=>simp[eqV]at h
 | .list ..,.ms .. | .list ..,.ptr .. | .list ..,.vptr _ | .list ..,.nilptr | .list ..,.map _ | .list ..,.nilmap | .list ..,.fn .. | .list ..,.nilfn | .list ..,.undef=>simp[eqV]at h
 | .agg ..,.ms .. | .agg ..,.ptr .. | .agg ..,.vptr _ | .agg ..,.nilptr | .agg ..,.map _ | .agg ..,.nilmap | .agg ..,.fn .. | .agg ..,.nilfn | .agg ..,.undef=>simp[eqV]at h
 | .tup ..,.ms .. | .tup ..,.ptr .. | .tup ..,.vptr _ | .tup ..,.nilptr | .tup ..,.map _ | .tup ..,.nilmap | .tup ..,.fn .. | .tup ..,.nilfn | .tup ..,.undef=>simp[eqV]at h
theorem qiu:∀ {l m:List qa},eqL l m=true→l=m:=by
 intro l m h
 match l,m with
 | [],[]=>rfl
 | [],_::_=>simp[eqL]at h
 |_::_,[]=>simp[eqL]at h
 |a::l,b::m=>
  simp only[eqL,Bool.cond_eq_ite]at h
  split at h
  ·next h1=>rw[jbc h1,qiu h]
  ·exact absurd h (by simp)
end
abbrev Row:=List qa×qa×Bool
def qpm (args:List qa):List Row→Option (qa×Bool)
 | []=>none
 |r::l=>bif eqL r.1 args then some r.2 else qpm args l
theorem qvg {args:List qa}{x:qa×Bool}:∀ {l:List Row},qpm args l=some x→(args,x)∈l
 | [],h=>by simp[qpm]at h
 |r::l,h=>by
  simp only[qpm,Bool.cond_eq_ite]at h
  split at h
  ·next hb=>
   simp only[Option.some.injEq]at h
   rw[←qiu hb,←h]
   exact List.mem_cons_self ..
  ·exact List.mem_cons_of_mem _ (qvg h)
def qqg (tab:Nat→Option (List Row)):qil:=fun k=>(tab k).map fun l args=>qpm args l
def q7o (P:Program)(tab:Nat→Option (List Row)):Prop:=
 ∀k l,tab k=some l→∀r∈l,qa3 P k r.1 r.2.1 r.2.2
def qku:List (Nat×List Row)→Nat→Option (List Row)
 | [],_=>none
 |(k,l)::t,n=>bif Nat.beq k n then some l else qku t n
def qzd (P:Program)(k:Nat):List Row→Prop
 | []=>True
 |r::l=>qa3 P k r.1 r.2.1 r.2.2∧qzd P k l
def q9q (P:Program):List (Nat×List Row)→Prop
 | []=>True
 |(k,l)::t=>qzd P k l∧q9q P t
theorem q3l {P:Program}{k:Nat}:∀ {l:List Row},qzd P k l→∀r∈l,qa3 P k r.1 r.2.1 r.2.2
 |r::l,h,x,hx=>by
  cases hx with
  |head=>exact h.1
  |tail _ hx=>exact q3l h.2 x hx
theorem q9e {P:Program}:∀ {t:List (Nat×List Row)},q9q P t→q7o P (qku t)
 |(j,m)::t,h,k,l,hk=>by
  simp only[qku,Bool.cond_eq_ite]at hk
  split at hk
  ·next hb=>
   rw[Nat.eq_of_beq_eq_true hb]at h
   simp only[Option.some.injEq]at hk
   subst hk
   exact q3l h.1
  ·exact q9e h.2 k l hk
theorem q70 {P:Program}{t:q9}{tab:Nat→Option (List Row)}{M:q7d}(h:qu P (t.prog (fun _=>none) M))(ht:q7o P tab)(he:∀k l,tab k=some l→Enters P k):qu P (t.prog (qqg tab) M) where
 fn:=h.fn
 prim:=by
  intro k f hf
  simp only[q9.prog,qqg,Option.map_eq_some_iff]at hf
  obtain⟨l,hl,rfl⟩:=hf
  refine⟨he k l hl,fun args v o hv _ _=>ht k l hl _ (qvg hv)⟩
 mixed:=h.mixed
 maps:=h.maps
theorem q79 {P:Program}{p:qn}(h:qu P p){n k b:Nat}{ow:Bool}{h1:zd}{es:List (qa×qa)}(hr:yk p (qaa p n) k [] []=some (.map b,ow,h1))(hb:h1[b]?=some (.map es))(he:qb4 0 es=true):Enters P k∧qzb P k es:=
 q7y h (CodeOk.of' (quh h n).1) (by rw[←qs3];exact hr) hb he
theorem qad {P:Program}{p:qn}(h:qu P p){n k:Nat}{args:List qa}{v:qa}{o:Bool}(hr:j7 p (qaa p n) k args=some (v,o))(hb:yq 0 args=true:=by rfl):qa3 P k args v o:=
 q6w h (q94 hr) hb
end Go.Abs
