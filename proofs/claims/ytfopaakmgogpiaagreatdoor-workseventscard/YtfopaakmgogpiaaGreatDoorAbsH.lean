/- The executor for the kernel's run. -/
import Derived.Test.YtfopaakmgogpiaaGreatDoorAbsG
import Derived.WalkKit
import Derived.ProofKit
import Derived.OpenShut
import Derived.ShutString
import Derived.ChangeOld
import Derived.Below
import Derived.Carry
import Derived.KernelRfl
import Derived.CallsIn
set_option linter.unusedVariables false
set_option linter.unusedSimpArgs false
namespace Go.Abs
def qag {α:Type}(n:Nat)(f:Nat→α):α:=match n with
 |0=>f 0
 |m+1=>f (Nat.succ m)
def quf {α:Type}(n:Int)(f:Int→α):α:=match n with
 | .ofNat a=>qag a fun a=>f (.ofNat a)
 | .negSucc a=>qag a fun a=>f (.negSucc a)
def qiv {α:Type}(b:Bool)(f:Bool→α):α:=match b with
 |true=>f true
 |false=>f false
def q0b {α:Type}(k:IntKind)(f:IntKind→α):α:=match k with
 | .i8=>f .i8 | .i16=>f .i16 | .i32=>f .i32 | .i64=>f .i64 | .u8=>f .u8 | .u16=>f .u16 | .u32=>f .u32 | .u64=>f .u64
def qhh {α:Type}:List UInt8→(List UInt8→α)→α
 | [],f=>f []
 |c::s,f=>qhh s fun s=>f (c::s)
def qys {α:Type}(g:Fn)(f:Fn→α):α:=match g with
 | .func k=>qag k fun k=>f (.func k)
 | .yield k=>qag k fun k=>f (.yield k)
 |g=>f g
mutual
def qa3 {α:Type}:qa→(qa→α)→α
 | .bool b,f=>qiv b fun b=>f (.bool b)
 | .int k n,f=>q0b k fun k=>quf n fun n=>f (.int k n)
 | .str s,f=>qhh s fun s=>f (.str s)
 | .list b sz xs,f=>qiv b fun b=>qag sz fun sz=>qhs xs fun xs=>f (.list b sz xs)
 | .ms b o l,f=>qag b fun b=>qag o fun o=>qag l fun l=>f (.ms b o l)
 | .ptr b o,f=>qag b fun b=>qag o fun o=>f (.ptr b o)
 | .vptr v,f=>qa3 v fun v=>f (.vptr v)
 | .pend n,f=>qag n fun n=>f (.pend n)
 | .nilptr,f=>f .nilptr
 | .map b,f=>qag b fun b=>f (.map b)
 | .nilmap,f=>f .nilmap
 | .fn g a c,f=>qys g fun g=>qhs a fun a=>qhs c fun c=>f (.fn g a c)
 | .nilfn,f=>f .nilfn
 | .agg cs,f=>qhs cs fun cs=>f (.agg cs)
 | .tup cs,f=>qhs cs fun cs=>f (.tup cs)
 | .undef,f=>f .undef
 | .any,f=>f .any
 | .vref b ver len,f=>qag b fun b=>qag ver fun ver=>qag len fun len=>f (.vref b ver len)
 | .vel b ver off,f=>qag b fun b=>qag ver fun ver=>qag off fun off=>f (.vel b ver off)
def qhs {α:Type}:List qa→(List qa→α)→α
 | [],f=>f []
 |x::xs,f=>qa3 x fun x=>qhs xs fun xs=>f (x::xs)
end
def qks {α:Type}:Env→(Env→α)→α
 | [],f=>f []
 |(t,v,o)::e,f=>qag t fun t=>qa3 v fun v=>qiv o fun o=>qks e fun e=>f ((t,v,o)::e)
def qjq {α:Type}:List (qa×Bool)→(List (qa×Bool)→α)→α
 | [],f=>f []
 |(v,o)::e,f=>qa3 v fun v=>qiv o fun o=>qjq e fun e=>f ((v,o)::e)
def qhn {α:Type}:List (qa×qa)→(List (qa×qa)→α)→α
 | [],f=>f []
 |(k,v)::e,f=>qa3 k fun k=>qa3 v fun v=>qhn e fun e=>f ((k,v)::e)
def qp7 {α:Type}(x:Option qo)(f:Option qo→α):α:=match x with
 |none=>f none
 |some .normal=>f (some .normal)
 |some (.exit id)=>qag id fun id=>f (some (.exit id))
 |some .ret=>f (some .ret)
def qud {α:Type}:qn→(qn→α)→α
 | .hole,f=>f .hole
 | .cells cs,f=>qjq cs fun cs=>f (.cells cs)
 | .map es,f=>qhn es fun es=>f (.map es)
 | .iter s pos,f=>qag pos fun pos=>f (.iter s pos)
 | .bld t e l,f=>qhh l fun l=>f (.bld t e l)
 | .dead,f=>f .dead
 -- (what a vector holds was forced when it was appended)
 | .vec sz ver xs,f=>qag sz fun sz=>qag ver fun ver=>f (.vec sz ver xs)
 | .loop l,f=>qks l.env fun e=>qp7 l.pending fun x=>f (.loop ⟨e,l.params,l.assign,l.body,x⟩)
def qlz {α:Type}:j8→(j8→α)→α
 | [],f=>f []
 |b::h,f=>qud b fun b=>qlz h fun h=>f (b::h)
def qnz {α:Type}(st:qg)(f:qg→α):α:=qks st.env fun e=>qlz st.heap fun h=>f ⟨e,h⟩
section
variable {α:Type}
theorem qbf (n:Nat)(f:Nat→α):qag n f=f n:=by cases n<;>rfl
theorem q49 (n:Int)(f:Int→α):quf n f=f n:=by cases n<;>simp[quf,qbf]
theorem qhp (n:Bool)(f:Bool→α):qiv n f=f n:=by cases n<;>rfl
theorem q3z (n:IntKind)(f:IntKind→α):q0b n f=f n:=by cases n<;>rfl
theorem qjh:∀ (s:List UInt8) (f:List UInt8→α),qhh s f=f s
 | [],_=>rfl
 |c::s,f=>by simp only[qhh];rw[qjh s]
theorem q70 (g:Fn)(f:Fn→α):qys g f=f g:=by cases g<;>simp[qys,qbf]
mutual
theorem qix:∀ (v:qa) (f:qa→α),qa3 v f=f v
 | .bool b,f=>by simp only[qa3,qhp]
 | .int k n,f=>by simp only[qa3,q3z,q49]
 | .str s,f=>by simp only[qa3,qjh]
 | .list b sz xs,f=>by simp only[qa3,qhp,qbf];rw[qfq xs]
 | .ms b o l,f=>by simp only[qa3,qbf]
 | .ptr b o,f=>by simp only[qa3,qbf]
 | .vptr v,f=>by simp only[qa3];rw[qix v]
 | .pend n,f=>by simp only[qa3,qbf]
 | .nilptr,f=>by simp only[qa3]
 | .map b,f=>by simp only[qa3,qbf]
 | .nilmap,f=>by simp only[qa3]
 | .fn g a c,f=>by simp only[qa3,q70];rw[qfq a,qfq c]
 | .nilfn,f=>by simp only[qa3]
 | .agg cs,f=>by simp only[qa3];rw[qfq cs]
 | .tup cs,f=>by simp only[qa3];rw[qfq cs]
 | .undef,f=>by simp only[qa3]
 | .any,f=>by simp only[qa3]
 | .vref b ver len,f=>by simp only[qa3,qbf]
 | .vel b ver off,f=>by simp only[qa3,qbf]
theorem qfq:∀ (l:List qa) (f:List qa→α),qhs l f=f l
 | [],f=>by simp only[qhs]
 |x::xs,f=>by simp only[qhs];rw[qix x,qfq xs]
end
theorem qmh:∀ (e:Env) (f:Env→α),qks e f=f e
 | [],_=>rfl
 |(t,v,o)::e,f=>by simp only[qks,qbf,qix,qhp];rw[qmh e]
theorem qp0:∀ (e:List (qa×Bool)) (f:List (qa×Bool)→α),qjq e f=f e
 | [],_=>rfl
 |(v,o)::e,f=>by simp only[qjq,qix,qhp];rw[qp0 e]
theorem qls:∀ (e:List (qa×qa)) (f:List (qa×qa)→α),qhn e f=f e
 | [],_=>rfl
 |(v,o)::e,f=>by simp only[qhn,qix];rw[qls e]
theorem q17 (x:Option qo)(f:Option qo→α):qp7 x f=f x:=by
 cases x with
 |none=>rfl
 |some x=>cases x<;>simp[qp7,qbf]
theorem q44 (b:qn)(f:qn→α):qud b f=f b:=by
 cases b<;>simp[qud,qp0,qls,qbf,qjh,qmh,q17,qfq]
theorem qr1:∀ (h:j8) (f:j8→α),qlz h f=f h
 | [],_=>rfl
 |b::h,f=>by simp only[qlz,q44];rw[qr1 h]
theorem qoy (st:qg)(f:qg→α):qnz st f=f st:=by simp only[qnz,qmh,qr1]
end
def qbc (p:qt):Nat→XC
 |0,_,_=>none
 |n+1,c,st=>match c with
  | .skip=>some (.normal,st)
  | .region na ops keep=>match qci p (qbc p n) na ops keep st with
   |some (x,st')=>qnz st' fun s=>some (x,s)
   |none=>none
  | .seq a b=>match qbc p n a st with
   |some (.normal,st')=>qbc p n b st'
   |r=>r
  | .cond c a b=>match zc st.env c with
   |some (.bool t)=>bif t then qbc p n a st else qbc p n b st
   |_=>none
  | .block id body=>match qbc p n body st with
   |some (.exit id',st')=>bif Nat.beq id' id then some (.normal,st')else some (.exit id',st')
   |r=>r
  | .loop body=>match qbc p n body st with
   |some (.normal,st')=>qnz (gc st.heap.length st') fun s=>qbc p n (.loop body) s
   |r=>r
  | .rangeFunc f params assign body=>match qdd p (qbc p n) f params assign body st with
   |some (x,st')=>qnz st' fun s=>some (x,s)
   |none=>none
  | .exit id=>some (.exit id,st)
  | .ret=>some (.ret,st)
  | .grow sz=>match ye 0 st.env,ye 1 st.env with
   |some (.list true _ _,_),some (.int .i64 (.ofNat m),_)=>bif Nat.blt 0 m&&Nat.ble m 1073741824 then some (.normal,{ st with env:=[(0,.list false sz [],true)] })else none
   |_,_=>none
  | .stuck=>none
theorem ql0 (p:qt):∀n,qbc p n=yf p n
 |0=>by funext c st;rfl
 |n+1=>by
  have ih:=ql0 p n
  funext c st
  cases c with
  |region na ops keep=>
   simp only[qbc,yf,ih]
   cases qci p (yf p n) na ops keep st with
   |none=>rfl
   |some r=>simp only[qoy]
  |rangeFunc f ps a b=>
   simp only[qbc,yf,ih]
   cases qdd p (yf p n) f ps a b st with
   |none=>rfl
   |some r=>simp only[qoy]
  |loop body=>
   simp only[qbc,yf,ih,qoy]
   rfl
  |_=>simp only[qbc,yf,ih]<;>rfl
inductive jb where
 |leaf (k:Nat) (f:qd)
 |node (m:Nat) (a b:jb)
def jb.find:jb→Nat→Option qd
 | .leaf k f,n=>bif Nat.beq k n then some f else none
 | .node m a b,n=>bif Nat.blt n m then a.find n else b.find n
def jb.All (Q:Nat→qd→Prop):jb→Prop
 | .leaf k f=>Q k f
 | .node _ a b=>a.All Q∧b.All Q
theorem jb.find_all {Q:Nat→qd→Prop}:∀ {t:jb} {k:Nat} {f:qd},t.All Q→t.find k=some f→Q k f
 | .leaf j g,k,f,h,hf=>by
  simp only[jb.find]at hf
  cases hb:Nat.beq j k with
  |false=>simp[hb]at hf
  |true=>
   have:=Nat.eq_of_beq_eq_true hb
   subst this
   simp only[hb,cT,Option.some.injEq]at hf
   subst hf;exact h
 | .node m a b,k,f,h,hf=>by
  simp only[jb.find]at hf
  cases hb:Nat.blt k m with
  |true=>simp only[hb,cT]at hf;exact jb.find_all h.1 hf
  |false=>simp only[hb,cond_false]at hf;exact jb.find_all h.2 hf
def jb.prog (t:jb)(prims:qjx)(maps:q7z:=fun _=>none):qt:={ fns:=t.find,prims:=prims,maps:=maps }
theorem jb3 {p:qt}{n k:Nat}{args:List qa}{r:Option (qa×Bool)}(h:jy p (qbc p n) k args=r):jy p (yf p n) k args=r:=by
 rw[←ql0];exact h
def Kw (w:World):Nat→Nat→Option Value:=fun r o=>(w.cell? ⟨r,o,none⟩).filter (·.oneCell')
theorem j2v {w:World}{r o:Nat}{v:Value}(h:w.cell? ⟨r,o,none⟩=some v)(h1:v.oneCell'=true):Kw w r o=some v:=by simp[Kw,h,h1]
theorem q6t {w:World}{r o:Nat}{v:Value}(h:Kw w r o=some v):w.cell? ⟨r,o,none⟩=some v∧v.oneCell'=true:=by
 unfold Kw at h;rw[Option.filter_eq_some_iff]at h;exact h
def qhm (P:Program)(t:TypeId):Bool:=match P.underlying t with
 |some (.struct _)=>true
 |some (.array _ _)=>true
 |_=>false
def q1d (P:Program):Nat→List Field→Bool
 |_,[]=>true
 |o,f::fs=>f.offset == o&&q1d P (o+P.cellsOf f.type) fs
def qll (P:Program)(fs:List Field):Nat:=(fs.map fun f=>P.cellsOf f.type).sum
def qfp (P:Program):Nat→TypeId→Bool
 |0,_=>false
 |n+1,t=>match P.underlying t with
  |some .bool=>P.cellsOf t == 1
  |some (.int _)=>P.cellsOf t == 1
  |some .string=>P.cellsOf t == 1
  |some (.slice e)=>P.cellsOf t == 1&&qfp P n e&&decide (0<P.cellsOf e)
  |some (.struct fs)=>q1d P 0 fs.toList&&qll P fs.toList == P.cellsOf t&&fs.toList.all fun f=>qfp P n f.type
  |some (.array k e)=>P.cellsOf t == k*P.cellsOf e&&qfp P n e
  |_=>false
def qne (ty:TypeId→List qa→Prop):List Field→List qa→Prop
 | [],cs=>cs=[]
 |f::fs,cs=>∃ys zs,cs=ys++zs∧ty f.type ys∧qne ty fs zs
def qlg (ty:List qa→Prop):Nat→List qa→Prop
 |0,cs=>cs=[]
 |k+1,cs=>∃ys zs,cs=ys++zs∧ty ys∧qlg ty k zs
def qav (P:Program):Nat→TypeId→List qa→Prop
 |0,_,_=>False
 |n+1,t,cs=>match P.underlying t with
  |some .bool=>∃b,cs=[.bool b]
  |some (.int k)=>∃m,cs=[.int k m]∧(Lit.int k m).wf=true
  |some .string=>∃s,cs=[.str s]∧s.length≤maxLen
  |some (.slice e)=>cs=[.list true 0 []]∨∃xs,cs=[.list false (P.cellsOf e) xs]∧xs.length≤maxLen∧∀y∈xs,qav P n e y.flat∧y.isAgg=qhm P e
  |some (.struct fs)=>qne (qav P n) fs.toList cs
  |some (.array k e)=>qlg (qav P n e) k cs
  |_=>False
section
variable {P:Program}{H:Type}{enc:TypeId×Value→H}{w:World}
theorem q0g:∀ (fs:List Field) (o:Nat) (vs:List Value),q1d P o fs=true→vs.length=o+qll P fs→vs.drop o=(fs.map fun f=>(vs.drop f.offset).take (P.cellsOf f.type)).flatten
 | [],o,vs,_,hl=>by simp[qll]at hl;simp[hl]
 |f::fs,o,vs,ht,hl=>by
  simp only[q1d,Bool.and_eq_true,beq_iff_eq]at ht
  obtain⟨rfl,ht⟩:=ht
  have ih:=q0g fs _ vs ht (by simp[qll]at hl ⊢;omega)
  rw[List.map_cons,List.flatten_cons,←ih,←List.drop_drop,List.take_append_drop]
theorem qj4 {α β:Type}{f:α→Option β}:∀ {l:List α} {ys:List β},l.mapM f=some ys→ys.length=l.length∧∀(i:Nat) (x:α),l[i]?=some x→∃y,ys[i]?=some y∧f x=some y
 | [],ys,h=>by simp at h;subst h;simp
 |a::l,ys,h=>by
  rw[List.mapM_cons]at h
  cases hf:f a with
  |none=>simp[hf]at h
  |some y=>
   cases hr:l.mapM f with
   |none=>simp[hf,hr]at h
   |some zs=>
    simp[hf,hr]at h
    subst h
    obtain⟨h1,h2⟩:=qj4 hr
    refine⟨by simp[h1],fun i x hx=>?_⟩
    cases i with
    |zero=>simp at hx;subst hx;exact⟨y,rfl,hf⟩
    |succ i=>simp at hx;obtain⟨z,h3,h4⟩:=h2 i x hx;exact⟨z,by simpa using h3,h4⟩
theorem q10 {base n:Nat}{a:Addr}{vs:List Value}(h:w.cells? base a n=some vs):vs.length=n∧∀(i:Nat) (v:Value),vs[i]?=some v→w.cell? (a.add i)=some v:=by
 unfold World.cells? at h
 split at h
 ·obtain⟨h1,h2⟩:=qj4 h
  rw[List.length_range]at h1
  refine⟨h1,fun i v hv=>?_⟩
  have hi:i<n:=by rw[←h1];exact(List.getElem?_eq_some_iff.1 hv).1
  obtain⟨y,h3,h4⟩:=h2 i i (by rw[List.getElem?_range hi])
  rw[hv]at h3;cases h3;exact h4
 ·cases h
theorem qw3 {ty:TypeId→List qa→Prop}:∀(fs:List Field) (vss:List (List Value)),vss.length=fs.length→(∀(i:Nat) (f:Field) (vs:List Value),fs[i]?=some f→vss[i]?=some vs→∃cs,RepL (.iso (Kw w)) cs vs∧ty f.type cs)→∃cs,RepL (.iso (Kw w)) cs vss.flatten∧qne ty fs cs
 | [],vss,hl,_=>by
  have:vss=[]:=List.length_eq_zero_iff.1 (by simpa using hl)
  subst this
  exact⟨[],.nil,rfl⟩
 |f::fs,[],hl,_=>by simp at hl
 |f::fs,vs::vss,hl,h=>by
  obtain⟨ys,h1,h2⟩:=h 0 f vs rfl rfl
  obtain⟨zs,h3,h4⟩:=qw3 fs vss (by simpa using hl) (fun i f' vs' hf hv=>h (i+1) f' vs' (by simpa using hf) (by simpa using hv))
  exact⟨ys++zs,RepL.append h1 h3,ys,zs,rfl,h2,h4⟩
theorem qt0 {ty:List qa→Prop}:∀(k:Nat) (vss:List (List Value)),vss.length=k→(∀(i:Nat) vs,vss[i]?=some vs→∃cs,RepL (.iso (Kw w)) cs vs∧ty cs)→∃cs,RepL (.iso (Kw w)) cs vss.flatten∧qlg ty k cs
 |0,vss,hl,_=>by
  have:vss=[]:=List.length_eq_zero_iff.1 hl
  subst this
  exact⟨[],.nil,rfl⟩
 |k+1,[],hl,_=>by simp at hl
 |k+1,vs::vss,hl,h=>by
  obtain⟨ys,h1,h2⟩:=h 0 vs rfl
  obtain⟨zs,h3,h4⟩:=qt0 k vss (by simpa using hl) (fun i vs' hv=>h (i+1) vs' (by simpa using hv))
  exact⟨ys++zs,RepL.append h1 h3,ys,zs,rfl,h2,h4⟩
theorem q6s (n:Nat):∀(k:Nat) (vs:List Value),vs.length=k*n→vs=((List.range k).map fun i=>(vs.drop (i*n)).take n).flatten
 |0,vs,hl=>by
  have:vs=[]:=List.length_eq_zero_iff.1 (by simpa using hl)
  simp[this]
 |k+1,vs,hl=>by
  have ih:=q6s n k (vs.drop n) (by simp[hl,Nat.succ_mul])
  rw[List.range_succ_eq_map,List.map_cons,List.flatten_cons,List.map_map]
  have e:(List.range k).map ((fun i=>(vs.drop (i*n)).take n) ∘ Nat.succ)=(List.range k).map fun i=>((vs.drop n).drop (i*n)).take n:=by
   z8 List.map_congr_left
   intro i _
   simp only[Function.comp,List.drop_drop]
   congr 2
   rw[Nat.succ_mul];omega
  rw[e,←ih]
  simp
theorem qjl:∀ {n:Nat} {t:TypeId} {cs:List qa},qav P n t cs→∀x∈cs,ze x=true
 |0,_,_,h=>h.elim
 |n+1,t,cs,h=>by
  have fsc:∀(fs:List Field) (cs:List qa),qne (qav P n) fs cs→∀x∈cs,ze x=true:=by
   intro fs
   induction fs with
   |nil=>intro cs h;simp only[qne]at h;subst h;simp
   |cons f fs ih=>
    rintro cs ⟨ys,zs,rfl,h1,h2⟩ x hx
    rcases List.mem_append.1 hx with hx|hx
    ·exact qjl h1 x hx
    ·exact ih _ h2 x hx
  have rsc:∀(e:TypeId) (k:Nat) (cs:List qa),qlg (qav P n e) k cs→∀x∈cs,ze x=true:=by
   intro e k
   induction k with
   |zero=>intro cs h;simp only[qlg]at h;subst h;simp
   |succ k ih=>
    rintro cs ⟨ys,zs,rfl,h1,h2⟩ x hx
    rcases List.mem_append.1 hx with hx|hx
    ·exact qjl h1 x hx
    ·exact ih _ h2 x hx
  simp only[qav]at h
  split at h
  ·obtain⟨b,rfl⟩:=h;simp[ze]
  ·obtain⟨m,rfl,_⟩:=h;simp[ze]
  ·obtain⟨s,rfl,_⟩:=h;simp[ze]
  ·rcases h with rfl|⟨xs,rfl,_⟩<;>simp[ze]
  ·exact fsc _ _ h
  ·exact rsc _ _ _ h
  ·exact h.elim
theorem qv3 {n:Nat}{t:TypeId}{cs:List qa}(h:qav P n t cs)(ha:qhm P t=false):∃x,cs=[x]∧x.isAgg=false:=by
 cases n with
 |zero=>exact h.elim
 |succ n=>
  unfold qhm at ha
  simp only[qav]at h
  split at h
  ·obtain⟨b,rfl⟩:=h;exact⟨_,rfl,rfl⟩
  ·obtain⟨m,rfl,_⟩:=h;exact⟨_,rfl,rfl⟩
  ·obtain⟨s,rfl,_⟩:=h;exact⟨_,rfl,rfl⟩
  ·rcases h with rfl|⟨xs,rfl,_⟩<;>exact⟨_,rfl,rfl⟩
  ·rename_i hu;rw[hu]at ha;cases ha
  ·rename_i hu;rw[hu]at ha;cases ha
  ·exact h.elim
theorem read {held:Bool}:∀(n fuel:Nat) (t:TypeId) (vs:List Value) (d:DataW H) (ps:List MemPlace),qfp P n t=true→DataW.trod enc P w 0 (fun _=>true) held fuel t vs=some (d,ps) →
  ∃cs,RepL (.iso (Kw w)) cs vs∧qav P n t cs∧cs.length=P.cellsOf t
 |0,_,_,_,_,_,hp,_=>by simp[qfp]at hp
 |n+1,0,_,_,_,_,_,h=>by simp[DataW.trod]at h
 |n+1,fuel+1,t,vs,d,ps,hp,h=>by
  simp only[qfp]at hp
  simp only[qav]
  simp only[DataW.trod]at h
  cases hu:P.underlying t with
  |none=>simp[hu]at hp
  |some td=>
   rw[hu]at h hp
   cases td with
   |bool=>
    simp only[beq_iff_eq]at hp
    split at h<;>first|cases ‹some _=some _› | skip
    all_goals first|(rename_i heq;cases heq;done)|skip
    ·exact⟨_,.cons _ _ _ _ (.bool _) .nil,⟨_,rfl⟩,by simp[hp]⟩
    ·cases h
   |int k=>
    simp only[beq_iff_eq]at hp
    split at h<;>first|cases ‹some _=some _› | skip
    all_goals first|(rename_i heq;cases heq;done)|skip
    ·split at h
     ·rename_i hk
      obtain⟨rfl,hk2⟩:=hk
      exact⟨_,.cons _ _ _ _ (.int _ _) .nil,⟨_,rfl,hk2⟩,by simp[hp]⟩
     ·cases h
    ·cases h
   |string=>
    simp only[beq_iff_eq]at hp
    split at h<;>first|cases ‹some _=some _› | skip
    all_goals first|(rename_i heq;cases heq;done)|skip
    ·rename_i s
     split at h
     ·rename_i hk
      refine⟨[.str s.data.toList],.cons _ _ _ _ (qp.str s.data.toList) .nil,⟨_,rfl,?_⟩,by simp[hp]⟩
      simpa using hk
     ·cases h
    ·cases h
   |slice e=>
    simp only[Bool.and_eq_true,beq_iff_eq,decide_eq_true_eq]at hp
    obtain⟨⟨hp1,hp2⟩,hp3⟩:=hp
    split at h<;>first|cases ‹some _=some _› | skip
    all_goals first|(rename_i heq;cases heq;done)|skip
    ·exact⟨_,.cons _ _ _ _ (.lnil 0) .nil,.inl rfl,by simp[hp1]⟩
    ·rename_i a len cap
     split at h
     ·rename_i hk
      obtain⟨_,hk2,hk3⟩:=hk
      cases he:(List.range len).mapM (fun i=>(w.cells? 0 (a.add (i*P.cellsOf e)) (P.cellsOf e)).bind (DataW.trod enc P w 0 (fun _=>true) held fuel e))with
      |none=>simp[he]at h
      |some elems=>
       simp only[he,Option.bind_some,if_true]at h
       cases hr:(List.range (cap-len)).mapM (fun j=>(w.cells? 0 (a.add ((len+j)*P.cellsOf e)) (P.cellsOf e)).bind (DataW.trod enc P w 0 (fun _=>true) held fuel e))with
       |none=>simp[hr]at h
       |some rest=>
        obtain⟨he1,he2⟩:=qj4 he
        obtain⟨hr1,hr2⟩:=qj4 hr
        rw[List.length_range]at he1 hr1
        have hspot:0<cap→a.spot=none:=fun hc=>by
         have hz0:∃z,(w.cells? 0 (a.add (0*P.cellsOf e)) (P.cellsOf e)).bind (DataW.trod enc P w 0 (fun _=>true) held fuel e)=some z:=by
          by_cases hl:0<len
          ·obtain⟨y,_,hy⟩:=he2 0 0 (by rw[List.getElem?_range hl]);exact⟨y,hy⟩
          ·obtain⟨y,_,hy⟩:=hr2 0 0 (by rw[List.getElem?_range (by omega)])
           have hl0:len=0:=by omega
           subst hl0
           exact⟨y,by simpa using hy⟩
         obtain⟨z0,hz0⟩:=hz0
         cases hc0:w.cells? 0 (a.add (0*P.cellsOf e)) (P.cellsOf e)with
         |none=>rw[hc0]at hz0;cases hz0
         |some us0=>
          obtain⟨d1,d2⟩:=q10 hc0
          have hcc:=d2 0 _ (List.getElem?_eq_getElem (show 0<us0.length by omega))
          have:=World.cell?_spot hcc
          simpa[Addr.add]using this
        by_cases hcap:0<cap
        ·have hs0:=hspot hcap
         obtain⟨r,o,sp⟩:=a
         simp only at hs0
         subst hs0
         have elem:∀(i:Nat),i<len→∃y:qa,RepC (.iso (Kw w)) r y.flat (o+i*P.cellsOf e)∧y.flat.length=P.cellsOf e∧qav P n e y.flat∧y.isAgg=qhm P e:=by
          intro i hi
          obtain⟨z,_,hz⟩:=he2 i i (by rw[List.getElem?_range hi])
          cases hc:w.cells? 0 ((⟨r,o,none⟩:Addr).add (i*P.cellsOf e)) (P.cellsOf e)with
          |none=>simp[hc]at hz
          |some us=>
           simp only[hc,Option.bind_some]at hz
           obtain⟨c1,c2⟩:=q10 hc
           obtain⟨cs,k1,k2,k3⟩:=read n fuel e us z.1 z.2 hp2 hz
           have hone:=qc8 k1 (qjl k2)
           have hcs:RepC (.iso (Kw w)) r cs (o+i*P.cellsOf e):=RepC.of_vals k1 fun j v hj=>by
            have h1:=c2 j v hj
            rw[add_lit,add_lit]at h1
            exact j2v h1 (hone v (List.mem_of_getElem? hj))
           cases hag:qhm P e with
           |true=>exact⟨.agg cs,hcs,k3,k2,rfl⟩
           |false=>
            obtain⟨x,rfl,hx⟩:=qv3 k2 hag
            have hf:x.flat=[x]:=qcz hx
            exact⟨x,by rw[hf];exact hcs,by rw[hf];exact k3,by rw[hf];exact k2,hx⟩
         have rows:∀(m:Nat) (q:Nat),q+m=len→∃ys:List qa,ys.length=m∧RepRow (.iso (Kw w)) r (P.cellsOf e) ys (o+q*P.cellsOf e)∧∀y∈ys,qav P n e y.flat∧y.isAgg=qhm P e:=by
          intro m
          induction m with
          |zero=>intro q _;exact⟨[],rfl,.rnil _ _ _,by simp⟩
          |succ m ih=>
           intro q hq
           obtain⟨ys,y1,y2,y3⟩:=ih (q+1) (by omega)
           obtain⟨y,z1,z2,z3⟩:=elem q (by omega)
           refine⟨y::ys,by simp[y1],.rcons _ _ _ _ _ z2 z1 ?_,?_⟩
           ·rw[show o+q*P.cellsOf e+P.cellsOf e=o+(q+1)*P.cellsOf e from by rw[Nat.succ_mul];omega];exact y2
           ·intro x hx
            rcases List.mem_cons.1 hx with rfl|hx
            ·exact z3
            ·exact y3 x hx
         obtain⟨ys,y1,y2,y3⟩:=rows len 0 (by omega)
         rw[Nat.zero_mul,Nat.add_zero]at y2
         subst y1
         exact⟨_,.cons _ _ _ _ (.list (P.cellsOf e) ys r o cap hk2 y2) .nil,.inr ⟨ys,rfl,by omega,y3⟩,by simp[hp1]⟩
        ·have hc0:cap=0:=by omega
         have hl0:len=0:=by omega
         subst hc0;subst hl0
         by_cases hsp:a.spot=none
         ·obtain⟨r,o,sp⟩:=a
          simp only at hsp
          subst hsp
          exact⟨_,.cons _ _ _ _ (.list (P.cellsOf e) [] r o 0 (by simp) (.rnil _ _ _)) .nil,.inr ⟨[],rfl,by simp,by simp⟩,by simp[hp1]⟩
         ·exact⟨_,.cons _ _ _ _ (.lemp (P.cellsOf e) a hsp) .nil,.inr ⟨[],rfl,by simp,by simp⟩,by simp[hp1]⟩
     ·cases h
    ·cases h
   |struct fs=>
    simp only[Bool.and_eq_true,beq_iff_eq,List.all_eq_true]at hp
    obtain⟨⟨hp1,hp2⟩,hp3⟩:=hp
    change (if vs.length=P.cellsOf t then(fs.toList.mapM fun f=>DataW.trod enc P w 0 (fun _=>true) held fuel f.type ((vs.drop f.offset).take (P.cellsOf f.type))).map fun xs=>(DataW.agg (xs.map (·.1)),xs.flatMap (·.2))else none)=some (d,ps)at h
    ·split at h
     ·rename_i hl
      cases hm:fs.toList.mapM (fun f=>DataW.trod enc P w 0 (fun _=>true) held fuel f.type ((vs.drop f.offset).take (P.cellsOf f.type)))with
      |none=>simp[hm]at h
      |some zs=>
       obtain⟨m1,m2⟩:=qj4 hm
       have hcut:=q0g fs.toList 0 vs hp1 (by omega)
       obtain⟨cs,k1,k2⟩:=qw3 (w:=w) (ty:=qav P n) fs.toList (fs.toList.map fun f=>(vs.drop f.offset).take (P.cellsOf f.type)) (by simp) (fun i f us hf hv=>by
        obtain⟨z,_,hz⟩:=m2 i f hf
        have hus:us=(vs.drop f.offset).take (P.cellsOf f.type):=by
         rw[List.getElem?_map,hf]at hv
         simpa using hv.symm
        subst hus
        obtain⟨cs,q1,q2,_⟩:=read n fuel f.type _ z.1 z.2 (hp3 f (List.mem_of_getElem? hf)) hz
        exact⟨cs,q1,q2⟩)
       rw[←hcut]at k1
       exact⟨cs,by simpa using k1,k2,by have:=k1.length;simp at this;omega⟩
     ·cases h
   |array k e=>
    simp only[Bool.and_eq_true,beq_iff_eq]at hp
    obtain⟨hp1,hp2⟩:=hp
    change (if vs.length=P.cellsOf t then((List.range k).mapM fun i=>DataW.trod enc P w 0 (fun _=>true) held fuel e ((vs.drop (i*P.cellsOf e)).take (P.cellsOf e))).map fun xs=>(DataW.agg (xs.map (·.1)),xs.flatMap (·.2))else none)=some (d,ps)at h
    ·split at h
     ·rename_i hl
      cases hm:(List.range k).mapM (fun i=>DataW.trod enc P w 0 (fun _=>true) held fuel e ((vs.drop (i*P.cellsOf e)).take (P.cellsOf e)))with
      |none=>simp[hm]at h
      |some zs=>
       obtain⟨m1,m2⟩:=qj4 hm
       have hcut:=q6s (P.cellsOf e) k vs (by omega)
       obtain⟨cs,k1,k2⟩:=qt0 (w:=w) (ty:=qav P n e) k ((List.range k).map fun i=>(vs.drop (i*P.cellsOf e)).take (P.cellsOf e)) (by simp) (fun i us hv=>by
        have hi:i<k:=by
         have:=(List.getElem?_eq_some_iff.1 hv).1
         simpa using this
        obtain⟨z,_,hz⟩:=m2 i i (by rw[List.getElem?_range hi])
        have hus:us=(vs.drop (i*P.cellsOf e)).take (P.cellsOf e):=by
         rw[List.getElem?_map,List.getElem?_range hi]at hv
         simpa using hv.symm
        subst hus
        obtain⟨cs,q1,q2,_⟩:=read n fuel e _ z.1 z.2 hp2 hz
        exact⟨cs,q1,q2⟩)
       rw[←hcut]at k1
       exact⟨cs,k1,k2,by have:=k1.length;omega⟩
     ·cases h
   |_=>simp at hp
end
open Go.ChangeShapes Go.WideShapes Go.ChangeAt Go.RowKit
section
variable {P:Program}{H:Type}{enc:TypeId×Value→H}{w:World}
def jcj (P:Program)(n:Nat)(t:TypeId)(x:qa):Prop:=qav P n t x.flat∧x.isAgg=qhm P t
def qo7 (P:Program)(n:Nat):List TypeId→List qa→Prop
 | [],xs=>xs=[]
 |t::ts,xs=>∃y ys,xs=y::ys∧jcj P n t y∧qo7 P n ts ys
theorem jlv {n:Nat}{t:TypeId}{v:Value}{d:DataW H}{ps:List MemPlace}{base:Nat}(hp:qfp P n t=true)(hv:Value.okWide P w .any base t v)(h:DataW.Trod enc P w 0 (fun _=>true) true t v d ps):∃x,Rep (.iso (Kw w)) x v∧jcj P n t x:=by
 obtain⟨fuel,hf⟩:=h
 obtain⟨cs,k1,k2,k3⟩:=read n fuel t _ d ps hp hf
 cases hag:qhm P t with
 |true=>
  have hvv:∃cells,v=.agg cells:=by
   unfold qhm at hag
   unfold Value.okWide at hv
   split at hag
   ·rename_i fs hu;rw[hu]at hv;obtain⟨c,hc,_⟩:=hv;exact⟨c,hc⟩
   ·rename_i a b hu;rw[hu]at hv;obtain⟨c,hc,_⟩:=hv;exact⟨c,hc⟩
   ·cases hag
  obtain⟨cells,rfl⟩:=hvv
  exact⟨.agg cs,.agg cs cells.toList k1,k2,hag.symm⟩
 |false=>
  obtain⟨x,rfl,hx⟩:=qv3 k2 hag
  have hvv:v.cells.toList=[v]:=by
   cases v with
   |agg c=>
    exfalso
    unfold Value.okWide at hv
    unfold qhm at hag
    cases n with
    |zero=>simp[qfp]at hp
    |succ n=>
     simp only[qfp]at hp
     cases hu:P.underlying t with
     |none=>rw[hu]at hp;cases hp
     |some td=>rw[hu]at hp hv hag;cases td<;>first|(simp at hp;done)|(simp at hag;done)|(simp[Cell.okWide,hu,Cell.ok]at hv;done)
   |_=>rfl
  rw[hvv]at k1
  cases k1 with
  |cons _ _ _ _ h1 _=>exact⟨x,h1,by rw[qcz hx];exact k2,by rw[hx,hag]⟩
theorem q6e {n:Nat}:∀ {ts:List TypeId} {vs:List Value} {ds:List (DataW H)} {ps:List MemPlace},ts.all (qfp P n)=true→(∀(j:Nat) t v,ts[j]?=some t→vs[j]?=some v→∃base,Value.okWide P w .any base t v)→DataW.TrodAll enc P w 0 (fun _=>true) true ts vs ds ps →
  ds.length=ts.length∧∃xs,RepL (.iso (Kw w)) xs vs∧qo7 P n ts xs
 | [],[],[],ps,_,_,_=>⟨rfl,[],.nil,rfl⟩
 | [],[],_::_,ps,_,_,h=>by simp[DataW.TrodAll]at h
 | [],_::_,_,ps,_,_,h=>by simp[DataW.TrodAll]at h
 |_::_,[],_,ps,_,_,h=>by simp[DataW.TrodAll]at h
 |_::_,_::_,[],ps,_,_,h=>by simp[DataW.TrodAll]at h
 |t::ts,v::vs,d::ds,ps,hp,hv,h=>by
  obtain⟨p,q,h1,h2,_⟩:=h
  simp only[List.all_cons,Bool.and_eq_true]at hp
  obtain⟨base,hb⟩:=hv 0 t v rfl rfl
  obtain⟨x,k1,k2⟩:=jlv hp.1 hb h1
  obtain⟨hl,xs,k3,k4⟩:=q6e hp.2 (fun j t' v' ht hv'=>hv (j+1) t' v' (by simpa using ht) (by simpa using hv')) h2
  exact⟨by simp[hl],x::xs,.cons _ _ _ _ k1 k3,x,xs,rfl,k2,k4⟩
theorem Ext.frame {w':World}(h:Ext w w')(may:MemPlace→Prop):w.keptBut w' may:=by
 refine⟨h.os,h.output,fun i hi=>?_⟩
 rw[h.same i hi]
 split<;>simp_all
theorem Ext.sameAt {w':World}(h:Ext w w'){p:MemPlace}(hp:p.block<w.heap.size):w.sameAt w' p:=by
 cases p with
 |cell b o=>exact World.cell?_of_block (w:=w) (h.same b hp)
 |map b=>exact h.same b hp
theorem q34 {w':World}(hx:Ext w w')(hl:laidOutB P=true):∀ {ts:List TypeId} {vs:List Value} {ds:List (DataW H)} {ps:List MemPlace},ts.all (fun t=>P.readableRec t&&decide (t<P.types.size))=true→DataW.TrodAll enc P w 0 (fun _=>true) true ts vs ds ps →
  DataW.TrodAll enc P w' 0 (fun b=>decide (b<w.heap.size)) true ts vs ds ps
 | [],[],[],ps,_,h=>h
 | [],[],_::_,ps,_,h=>by simp[DataW.TrodAll]at h
 | [],_::_,_,ps,_,h=>by simp[DataW.TrodAll]at h
 |_::_,[],_,ps,_,h=>by simp[DataW.TrodAll]at h
 |_::_,_::_,[],ps,_,h=>by simp[DataW.TrodAll]at h
 |t::ts,v::vs,d::ds,ps,hr,h=>by
  obtain⟨p,q,h1,h2,h3⟩:=h
  simp only[List.all_cons,Bool.and_eq_true,decide_eq_true_eq]at hr
  have hlt:∀x∈p,x.block<w.heap.size:=by obtain⟨m,hm⟩:=h1;exact DataW.trod_lt m _ _ _ hm
  exact⟨p,q,WideElems.Trod_stays hl hr.1.1 hr.1.2 h1 (fun x hm=>hx.sameAt (hlt x hm)) (fun x hm=>by simpa using hlt x hm),q34 hx hl hr.2 h2,h3⟩
end
def XLe (f g:XC):Prop:=∀c st r,f c st=some r→g c st=some r
section
variable {p:qt}{f g:XC}
theorem q0x (h:XLe f g){af:qd}{args:List qa}{hp:j8}{r:qa×Bool×j8}(hr:qcy f af args hp=some r):qcy g af args hp=some r:=by
 unfold qcy at *
 cases hb:Nat.ble args.length af.ntmps with
 |false=>simp[hb]at hr
 |true=>
  simp only[hb,cT]at hr ⊢
  split at hr
  ·rename_i st hst;rw[h _ _ _ hst];exact hr
  ·rename_i st hst;rw[h _ _ _ hst];exact hr
  ·cases hr
theorem qmm (h:XLe f g){k:Nat}{args:List qa}{hp:j8}{r:qa×Bool×j8}(hr:zf p f k args hp=some r):zf p g k args hp=some r:=by
 unfold zf at *
 split at hr
 ·exact q0x h hr
 ·exact hr
theorem qkl (h:XLe f g){k:Nat}{args:List qa}{r:qa×Bool}(hr:jy p f k args=some r):jy p g k args=some r:=by
 unfold jy at *
 split at hr
 ·exact hr
 ·split at hr
  ·rename_i v o hh hc;rw[qmm h hc];exact hr
  ·cases hr
theorem q3e (h:XLe f g){b:Nat}{args:List qa}{hp:j8}{r:qa×j8}(hr:qbh f b args hp=some r):qbh g b args hp=some r:=by
 unfold qbh at *
 split at hr
 ·split at hr
  ·split at hr
   ·rename_i st hst
    rw[h _ _ _ hst]
    simp only[]
    split at hr
    ·rename_i l1 hl1
     cases hp1:l1.pending.isNone with
     |false=>simp[hp1]at hr
     |true=>
      simp only[hp1,cT]at hr ⊢
      split at hr
      ·rename_i x st' hst'
       rw[h _ _ _ hst']
       exact hr
      ·cases hr
    ·cases hr
   ·cases hr
  ·cases hr
 ·cases hr
theorem q0w (h:XLe f g){h0:Nat}{e:Env}{hp:j8}{md:jc}{x:qh}{l:List qh}{r:qq}(hr:qap p f h0 e hp md x l=some r):qap p g h0 e hp md x l=some r:=by
 unfold qap at *
 split at hr
 ·cases md with
  |iso=>
   simp only[]at hr ⊢
   rename_i k first captured vs _ _
   cases hb:zu 0 (first++vs++captured)with
   |false=>rw[hb]at hr;cases hr
   |true=>
    rw[hb]at hr
    simp only[cT]at hr ⊢
    split at hr
    ·rename_i v o hc;rw[qkl h hc];exact hr
    ·cases hr
  |red=>
   simp only[]at hr ⊢
   split at hr
   ·rename_i us hf
    cases hb:zu 0 us with
    |false=>rw[hb]at hr;cases hr
    |true=>
     rw[hb]at hr
     simp only[cT]at hr ⊢
     split at hr
     ·rename_i v o hc;rw[qkl h hc];exact hr
     ·cases hr
   ·cases hr
  |frz _=>
   simp only[]at hr ⊢
   rename_i k first captured vs _ _ _
   cases he:(first++vs++captured).isEmpty with
   |true=>rw[he]at hr;exact hr
   |false=>
    rw[he]at hr
    simp only[cond_false]at hr ⊢
    cases hb:zu 0 (first++vs++captured)with
    |false=>rw[hb]at hr;cases hr
    |true=>
     rw[hb]at hr
     simp only[cT]at hr ⊢
     split at hr
     ·rename_i v o hc;rw[qkl h hc];exact hr
     ·cases hr
  |shr=>
   simp only[]at hr ⊢
   split at hr
   ·rename_i v o hh hc;rw[qmm h hc];exact hr
   ·cases hr
 ·cases md with
  |shr=>
   simp only[]at hr ⊢
   split at hr
   ·rename_i v hh hc;rw[q3e h hc];exact hr
   ·cases hr
  |_=>simp at hr
 ·cases hr
theorem q5u (h:XLe f g){h0:Nat}{al:Option (List Nat)}{e:Env}{hp:j8}{op:qw}{r:qq}(hr:j9 p f h0 al e hp op=some r):j9 p g h0 al e hp op=some r:=by
 cases op with
 |call md x l=>exact q0w h hr
 |append rk sz b x y=>cases rk<;>exact hr
 |mkslice rk sz b z n c=>cases rk<;>exact hr
 |_=>exact hr
theorem qpw (h:XLe f g){h0:Nat}{o:qu}{st st':qg}(hr:qao p f h0 o st=some st'):qao p g h0 o st=some st':=by
 unfold qao at *
 split at hr
 ·split at hr
  ·rename_i r hs;rw[q5u h hs];exact hr
  ·cases hr
 ·exact hr
 ·cases hr
theorem qqz (h:XLe f g){h0:Nat}:∀ {l:List qu} {st st':qg},qb3 p f h0 l st=some st'→qb3 p g h0 l st=some st'
 | [],_,_,hr=>hr
 |o::l,st,st',hr=>by
  simp only[qb3]at hr ⊢
  split at hr
  ·rename_i s1 h1;rw[qpw h h1];exact qqz h hr
  ·cases hr
theorem qsc (h:XLe f g){na:Nat}{l:List qu}{k:Option (List Nat)}{st:qg}{r:qo×qg}(hr:qci p f na l k st=some r):qci p g na l k st=some r:=by
 unfold qci at *
 split at hr
 ·rename_i s1 h1;rw[qqz h h1];exact hr
 ·cases hr
theorem qt4 (h:XLe f g){x:qh}{ps:List Nat}{a b:qe}{st:qg}{r:qo×qg}(hr:qdd p f x ps a b st=some r):qdd p g x ps a b st=some r:=by
 unfold qdd at *
 cases hn:(kn a&&kn b)with
 |false=>simp[hn]at hr
 |true=>
  simp only[hn,cT]at hr ⊢
  split at hr
  ·split at hr
   ·rename_i v o hh hc;rw[qmm h hc];exact hr
   ·cases hr
  ·cases hr
end
theorem qw9 (p:qt):∀n,XLe (yf p n) (yf p (n+1))
 |0=>fun c st r h=>by simp[yf]at h
 |n+1=>by
  have ih:=qw9 p n
  intro c st r h
  cases c with
  |region na l k=>simp only[yf]at h ⊢;exact qsc ih h
  |rangeFunc f ps a b=>simp only[yf]at h ⊢;exact qt4 ih h
  |seq a b=>
   rw[yf]at h ⊢
   split at h
   ·rename_i st1 h1
    rw[ih _ _ _ h1];exact ih _ _ _ h
   ·rename_i hne
    rw[ih _ _ _ h]
    split
    ·rename_i st1 h1;cases h1;exact absurd h (hne _)
    ·rfl
  |cond c a b=>
   rw[yf]at h ⊢
   split at h
   ·rename_i t ht
    cases t
    ·simp only[cond_false]at h ⊢;exact ih _ _ _ h
    ·simp only[cT]at h ⊢;exact ih _ _ _ h
   ·cases h
  |block id b=>
   rw[yf]at h ⊢
   split at h
   ·rename_i id' st1 h1
    rw[ih _ _ _ h1];exact h
   ·rename_i hne
    rw[ih _ _ _ h]
    split
    ·rename_i id' st1 h1;cases h1;exact absurd h (hne _ _)
    ·rfl
  |loop b=>
   rw[yf]at h ⊢
   split at h
   ·rename_i st1 h1
    rw[ih _ _ _ h1];exact ih _ _ _ h
   ·rename_i hne
    rw[ih _ _ _ h]
    split
    ·rename_i st1 h1;cases h1;exact absurd h (hne _)
    ·rfl
  |_=>exact h
theorem qd6 (p:qt){n m:Nat}(h:n≤m):XLe (yf p n) (yf p m):=by
 induction h with
 |refl=>exact fun _ _ _ h=>h
 |step _ ih=>exact fun c st r hr=>qw9 p _ c st r (ih c st r hr)
open Classical in
noncomputable def X (p:qt):XC:=fun c st=>if h:∃r n,yf p n c st=some r then some (Classical.choose h)else none
theorem qar {p:qt}{c:qe}{st:qg}{r:qo×qg}:X p c st=some r↔∃n,yf p n c st=some r:=by
 unfold X
 constructor
 ·intro h
  split at h
  ·rename_i hh
   cases h
   exact Classical.choose_spec hh
  ·cases h
 ·rintro ⟨n,hn⟩
  have hh:∃r n,yf p n c st=some r:=⟨r,n,hn⟩
  rw[dif_pos hh]
  obtain⟨m,hm⟩:=Classical.choose_spec hh
  have h1:=qd6 p (Nat.le_max_left n m) _ _ _ hn
  have h2:=qd6 p (Nat.le_max_right n m) _ _ _ hm
  rw[h1]at h2
  exact h2.symm
theorem qjf {p:qt}(n:Nat):XLe (yf p n) (X p):=fun _ _ _ h=>qar.2 ⟨n,h⟩
section
variable {p:qt}
theorem q3j {af:qd}{args:List qa}{hp:j8}{r:qa×Bool×j8}(hr:qcy (X p) af args hp=some r):∃n,qcy (yf p n) af args hp=some r:=by
 have hr0:=hr
 unfold qcy at hr
 cases hb:Nat.ble args.length af.ntmps with
 |false=>simp[hb]at hr
 |true=>
  simp only[hb,cT]at hr
  have key:∀ {r'},X p af.body ⟨qeo 0 args,hp⟩=some r'→∃n,qcy (yf p n) af args hp=some r:=by
   intro r' h
   obtain⟨n,hn⟩:=qar.1 h
   refine⟨n,?_⟩
   unfold qcy
   rw[hb,hn]
   rw[h]at hr
   exact hr
  split at hr
  ·rename_i st hst;exact key hst
  ·rename_i st hst;exact key hst
  ·cases hr
theorem qpj {k:Nat}{args:List qa}{hp:j8}{r:qa×Bool×j8}(hr:zf p (X p) k args hp=some r):∃n,zf p (yf p n) k args hp=some r:=by
 unfold zf at *
 cases h:p.fns k with
 |none=>rw[h]at hr;exact⟨0,hr⟩
 |some f=>rw[h]at hr;exact q3j hr
theorem qih {k:Nat}{args:List qa}{r:qa×Bool}(hr:jy p (X p) k args=some r):∃n,jy p (yf p n) k args=some r:=by
 unfold jy at *
 cases h:p.prims k with
 |some f=>rw[h]at hr;exact⟨0,hr⟩
 |none=>
  rw[h]at hr
  simp only[]at hr ⊢
  split at hr
  ·rename_i v o hh hc
   obtain⟨n,hn⟩:=qpj hc
   exact⟨n,by rw[hn];exact hr⟩
  ·cases hr
theorem q5r {b:Nat}{args:List qa}{hp:j8}{r:qa×j8}(hr:qbh (X p) b args hp=some r):∃n,qbh (yf p n) b args hp=some r:=by
 unfold qbh at hr
 split at hr
 ·rename_i l hl
  split at hr
  ·rename_i e hpn hse
   split at hr
   ·rename_i st hst
    split at hr
    ·rename_i l1 hl1
     cases hp1:l1.pending.isNone with
     |false=>simp[hp1]at hr
     |true=>
      simp only[hp1,cT]at hr
      split at hr
      ·rename_i x st' hst'
       obtain⟨n,hn⟩:=qar.1 hst
       obtain⟨m,hm⟩:=qar.1 hst'
       refine⟨max n m,?_⟩
       have h1:=qd6 p (Nat.le_max_left n m) _ _ _ hn
       have h2:=qd6 p (Nat.le_max_right n m) _ _ _ hm
       simp only[qbh,hl,hpn,hse,h1,hl1,hp1,cT,h2]
       exact hr
      ·cases hr
    ·cases hr
   ·cases hr
  ·cases hr
 ·cases hr
theorem q2j {h0:Nat}{e:Env}{hp:j8}{md:jc}{x:qh}{l:List qh}{r:qq}(hr:qap p (X p) h0 e hp md x l=some r):∃n,qap p (yf p n) h0 e hp md x l=some r:=by
 unfold qap at hr
 split at hr
 ·rename_i k first captured vs e1 e2
  cases md with
  |iso=>
   simp only[]at hr
   cases hb:zu 0 (first++vs++captured)with
   |false=>rw[hb]at hr;cases hr
   |true=>
    rw[hb]at hr
    simp only[cT]at hr
    split at hr
    ·rename_i v o hc
     obtain⟨n,hn⟩:=qih hc
     refine⟨n,?_⟩
     simp only[qap,e1,e2,hn]
     rw[hb]
     exact hr
    ·cases hr
  |red=>
   simp only[]at hr
   split at hr
   ·rename_i us hf
    cases hb:zu 0 us with
    |false=>rw[hb]at hr;cases hr
    |true=>
     rw[hb]at hr
     simp only[cT]at hr
     split at hr
     ·rename_i v o hc
      obtain⟨n,hn⟩:=qih hc
      refine⟨n,?_⟩
      simp only[qap,e1,e2,hf,hn]
      rw[hb]
      exact hr
     ·cases hr
   ·cases hr
  |frz _=>
   simp only[]at hr
   cases he:(first++vs++captured).isEmpty with
   |true=>exact⟨0,by simp only[qap,e1,e2,he];rw[he]at hr;exact hr⟩
   |false=>
    rw[he]at hr
    simp only[cond_false]at hr
    cases hb:zu 0 (first++vs++captured)with
    |false=>rw[hb]at hr;cases hr
    |true=>
     rw[hb]at hr
     simp only[cT]at hr
     split at hr
     ·rename_i v o hc
      obtain⟨n,hn⟩:=qih hc
      refine⟨n,?_⟩
      simp only[qap,e1,e2,hn]
      rw[he,hb]
      exact hr
     ·cases hr
  |shr=>
   simp only[]at hr
   split at hr
   ·rename_i v o hh hc
    obtain⟨n,hn⟩:=qpj hc
    refine⟨n,?_⟩
    simp only[qap,e1,e2,hn]
    exact hr
   ·cases hr
 ·rename_i b vs e1 e2
  cases md with
  |shr=>
   simp only[]at hr
   split at hr
   ·rename_i v hh hc
    obtain⟨n,hn⟩:=q5r hc
    refine⟨n,?_⟩
    simp only[qap,e1,e2,hn]
    exact hr
   ·cases hr
  |_=>simp at hr
 ·cases hr
theorem q73 {h0:Nat}{al:Option (List Nat)}{e:Env}{hp:j8}{op:qw}{r:qq}(hr:j9 p (X p) h0 al e hp op=some r):∃n,j9 p (yf p n) h0 al e hp op=some r:=by
 cases op with
 |call md x l=>exact q2j hr
 |append rk sz b x y=>cases rk<;>exact⟨0,hr⟩
 |mkslice rk sz b z n c=>cases rk<;>exact⟨0,hr⟩
 |_=>exact⟨0,hr⟩
theorem q4d {h0:Nat}{o:qu}{st st':qg}(hr:qao p (X p) h0 o st=some st'):∃n,qao p (yf p n) h0 o st=some st':=by
 unfold qao at *
 cases hg:qcb st.env o.guard with
 |none=>simp[hg]at hr
 |some b=>
  rw[hg]at hr
  cases b with
  |false=>exact⟨0,hr⟩
  |true=>
   simp only[]at hr ⊢
   split at hr
   ·rename_i r hs
    obtain⟨n,hn⟩:=q73 hs
    exact⟨n,by rw[hn];exact hr⟩
   ·cases hr
theorem q32 {h0:Nat}:∀ {l:List qu} {st st':qg},qb3 p (X p) h0 l st=some st'→∃n,qb3 p (yf p n) h0 l st=some st'
 | [],_,_,hr=>⟨0,hr⟩
 |o::l,st,st',hr=>by
  simp only[qb3]at hr
  split at hr
  ·rename_i s1 h1
   obtain⟨n,hn⟩:=q4d h1
   obtain⟨m,hm⟩:=q32 hr
   refine⟨max n m,?_⟩
   simp only[qb3]
   rw[qpw (qd6 p (Nat.le_max_left n m)) hn]
   exact qqz (qd6 p (Nat.le_max_right n m)) hm
  ·cases hr
theorem q5z {na:Nat}{l:List qu}{k:Option (List Nat)}{st:qg}{r:qo×qg}(hr:qci p (X p) na l k st=some r):∃n,qci p (yf p n) na l k st=some r:=by
 unfold qci at hr
 split at hr
 ·rename_i s1 h1
  obtain⟨n,hn⟩:=q32 h1
  exact⟨n,by unfold qci;rw[hn];exact hr⟩
 ·cases hr
theorem q92 {x:qh}{ps:List Nat}{a b:qe}{st:qg}{r:qo×qg}(hr:qdd p (X p) x ps a b st=some r):∃n,qdd p (yf p n) x ps a b st=some r:=by
 unfold qdd at hr
 cases hn:(kn a&&kn b)with
 |false=>simp[hn]at hr
 |true=>
  simp only[hn,cT]at hr
  split at hr
  ·rename_i k first captured hev
   split at hr
   ·rename_i v o hh hc
    obtain⟨n,hn'⟩:=qpj hc
    refine⟨n,?_⟩
    unfold qdd
    rw[hn,hev]
    simp only[cT]
    rw[hn']
    exact hr
   ·cases hr
  ·cases hr
theorem qh1 {α:Type}{x y:Option α}(h1:∀r,x=some r→y=some r)(h2:∀r,y=some r→x=some r):x=y:=by
 cases x with
 |none=>
  cases y with
  |none=>rfl
  |some r=>exact(h2 r rfl)
 |some r=>exact(h1 r rfl).symm
theorem jtg {st:qg}:X p .skip st=some (.normal,st):=qar.2 ⟨1,rfl⟩
theorem jti {id:Nat}{st:qg}:X p (.exit id) st=some (.exit id,st):=qar.2 ⟨1,rfl⟩
theorem jye {st:qg}:X p .ret st=some (.ret,st):=qar.2 ⟨1,rfl⟩
theorem jdm {na:Nat}{l:List qu}{k:Option (List Nat)}{st:qg}:X p (.region na l k) st=qci p (X p) na l k st:=by
 refine qh1 (fun r h=>?_) (fun r h=>?_)
 ·obtain⟨n,hn⟩:=qar.1 h
  cases n with
  |zero=>simp[yf]at hn
  |succ n=>simp only[yf]at hn;exact qsc (qjf n) hn
 ·obtain⟨n,hn⟩:=q5z h
  exact qar.2 ⟨n+1,by simp only[yf];exact hn⟩
theorem qyn {x:qh}{ps:List Nat}{a b:qe}{st:qg}:X p (.rangeFunc x ps a b) st=qdd p (X p) x ps a b st:=by
 refine qh1 (fun r h=>?_) (fun r h=>?_)
 ·obtain⟨n,hn⟩:=qar.1 h
  cases n with
  |zero=>simp[yf]at hn
  |succ n=>simp only[yf]at hn;exact qt4 (qjf n) hn
 ·obtain⟨n,hn⟩:=q92 h
  exact qar.2 ⟨n+1,by simp only[yf];exact hn⟩
theorem j29 {a b:qe}{st:qg}:X p (.seq a b) st=match X p a st with
  |some (.normal,st')=>X p b st'
  |r=>r:=by
 refine qh1 (fun r h=>?_) (fun r h=>?_)
 ·obtain⟨n,hn⟩:=qar.1 h
  cases n with
  |zero=>simp[yf]at hn
  |succ n=>
   rw[yf]at hn
   split at hn
   ·rename_i st1 h1;rw[qjf n _ _ _ h1];exact qjf n _ _ _ hn
   ·rename_i hne
    rw[qjf n _ _ _ hn]
    split
    ·rename_i st1 h1;cases h1;exact absurd hn (hne _)
    ·rfl
 ·split at h
  ·rename_i st1 h1
   obtain⟨n,hn⟩:=qar.1 h1
   obtain⟨m,hm⟩:=qar.1 h
   refine qar.2 ⟨max n m+1,?_⟩
   rw[yf,qd6 p (Nat.le_max_left n m) _ _ _ hn]
   exact qd6 p (Nat.le_max_right n m) _ _ _ hm
  ·rename_i hne
   obtain⟨n,hn⟩:=qar.1 h
   refine qar.2 ⟨n+1,?_⟩
   rw[yf,hn]
   split
   ·rename_i st1 h1;cases h1;exact absurd h (hne _)
   ·rfl
theorem jue {c:qh}{a b:qe}{st:qg}:X p (.cond c a b) st=match zc st.env c with
  |some (.bool t)=>bif t then X p a st else X p b st
  |_=>none:=by
 refine qh1 (fun r h=>?_) (fun r h=>?_)
 ·obtain⟨n,hn⟩:=qar.1 h
  cases n with
  |zero=>simp[yf]at hn
  |succ n=>
   rw[yf]at hn
   split at hn
   ·rename_i t ht
    rw[ht]
    cases t
    ·simp only[cond_false]at hn ⊢;exact qjf n _ _ _ hn
    ·simp only[cT]at hn ⊢;exact qjf n _ _ _ hn
   ·cases hn
 ·split at h
  ·rename_i t ht
   cases t
   ·simp only[cond_false]at h
    obtain⟨n,hn⟩:=qar.1 h
    exact qar.2 ⟨n+1,by rw[yf,ht];exact hn⟩
   ·simp only[cT]at h
    obtain⟨n,hn⟩:=qar.1 h
    exact qar.2 ⟨n+1,by rw[yf,ht];exact hn⟩
  ·cases h
theorem jlm {id:Nat}{b:qe}{st:qg}:X p (.block id b) st=match X p b st with
  |some (.exit id',st')=>bif Nat.beq id' id then some (.normal,st')else some (.exit id',st')
  |r=>r:=by
 refine qh1 (fun r h=>?_) (fun r h=>?_)
 ·obtain⟨n,hn⟩:=qar.1 h
  cases n with
  |zero=>simp[yf]at hn
  |succ n=>
   rw[yf]at hn
   split at hn
   ·rename_i id' st1 h1;rw[qjf n _ _ _ h1];exact hn
   ·rename_i hne
    rw[qjf n _ _ _ hn]
    split
    ·rename_i id' st1 h1;cases h1;exact absurd hn (hne _ _)
    ·rfl
 ·split at h
  ·rename_i id' st1 h1
   obtain⟨n,hn⟩:=qar.1 h1
   exact qar.2 ⟨n+1,by rw[yf,hn];exact h⟩
  ·rename_i hne
   obtain⟨n,hn⟩:=qar.1 h
   refine qar.2 ⟨n+1,?_⟩
   rw[yf,hn]
   split
   ·rename_i id' st1 h1;cases h1;exact absurd h (hne _ _)
   ·rfl
theorem jqf {b:qe}{st:qg}:X p (.loop b) st=match X p b st with
  |some (.normal,st')=>X p (.loop b) (gc st.heap.length st')
  |r=>r:=by
 refine qh1 (fun r h=>?_) (fun r h=>?_)
 ·obtain⟨n,hn⟩:=qar.1 h
  cases n with
  |zero=>simp[yf]at hn
  |succ n=>
   rw[yf]at hn
   split at hn
   ·rename_i st1 h1;rw[qjf n _ _ _ h1];exact qjf n _ _ _ hn
   ·rename_i hne
    rw[qjf n _ _ _ hn]
    split
    ·rename_i st1 h1;cases h1;exact absurd hn (hne _)
    ·rfl
 ·split at h
  ·rename_i st1 h1
   obtain⟨n,hn⟩:=qar.1 h1
   obtain⟨m,hm⟩:=qar.1 h
   refine qar.2 ⟨max n m+1,?_⟩
   rw[yf,qd6 p (Nat.le_max_left n m) _ _ _ hn]
   exact qd6 p (Nat.le_max_right n m) _ _ _ hm
  ·rename_i hne
   obtain⟨n,hn⟩:=qar.1 h
   refine qar.2 ⟨n+1,?_⟩
   rw[yf,hn]
   split
   ·rename_i st1 h1;cases h1;exact absurd h (hne _)
   ·rfl
theorem jt0 {sz:Nat}{st:qg}:X p (.grow sz) st=match ye 0 st.env,ye 1 st.env with
   |some (.list true _ _,_),some (.int .i64 (.ofNat m),_)=>bif Nat.blt 0 m&&Nat.ble m 1073741824 then some (.normal,{ st with env:=[(0,.list false sz [],true)] })else none
   |_,_=>none:=by
 refine qh1 (fun r h=>?_) (fun r h=>?_)
 ·obtain⟨n,hn⟩:=qar.1 h
  cases n with
  |zero=>simp[yf]at hn
  |succ n=>simp only[yf]at hn;exact hn
 ·exact qar.2 ⟨1,by simp only[yf];exact h⟩
theorem q1r {P:Program}(hp':qx P p){k:Nat}{args:List qa}{v:qa}{ow:Bool}(h:jy p (X p) k args=some (v,ow))(hb:zu 0 args=true):IsoCall P k args v ow:=by
 obtain⟨n,hn⟩:=qih h
 exact q6n hp' hn hb
end
inductive jl where
 |code (c:qe)
 |seq (a b:jl)
 |cond (c:qh) (a b:jl)
 |block (id:Nat) (b:jl)
 |loop (b:jl)
 |thaw (s:Nat) (c:jl)
 |shut (s sz:Nat) (c:jl)
def jl.erase:jl→qe
 | .code c=>c
 | .seq a b=>.seq a.erase b.erase
 | .cond c a b=>.cond c a.erase b.erase
 | .block id b=>.block id b.erase
 | .loop b=>.loop b.erase
 | .thaw _ c=>c.erase
 | .shut _ _ c=>c.erase
def StI (P:Program)(w0:World)(K:Nat→Nat→Option Value)(nt:Nat)(st:qg)(a:Act)(w:World):Prop:=
 a.tmps.size=nt∧∃C' ω',Marks C' w0.heap.size a.defers∧MInv P C' ω' w0 (.iso K) st.heap w∧EnvRel C' ω' w w0.heap.size st.env a.tmps
theorem StI.gc {P:Program}{w0:World}{K:Nat→Nat→Option Value}{nt n:Nat}{st:qg}{a:Act}{w:World}(h:StI P w0 K nt st a w):StI P w0 K nt (Abs.gc n st) a w:=by
 obtain⟨h1,C',ω',h2,h3,h4⟩:=h
 unfold Abs.gc
 cases hb:Nat.ble st.heap.length n with
 |true=>exact⟨h1,C',ω',h2,h3,h4⟩
 |false=>
  simp only[cond_false]
  cases hb2:(qbw n st.env&&ki n (st.heap.take n))with
  |false=>exact⟨h1,C',ω',h2,h3,h4⟩
  |true=>
   simp only[cT]
   simp only[Bool.and_eq_true]at hb2
   have hn:n≤st.heap.length:=by
    rcases Nat.lt_or_ge n st.heap.length with h|h
    ·omega
    ·rw[Nat.ble_eq_true_of_le h]at hb;cases hb
   exact⟨h1,C'.cut n,ω',⟨h2.choose,h2.choose_spec.1,h2.choose_spec.2.1,h2.choose_spec.2.2⟩,h3.gc hn hb2.2 (fun b r h=>by cases h),h4.cut hb2.1⟩
section
variable {P:Program}
theorem Tabs.table {w:World}(h:Tabs P w){g:Nat}(hg:P.globalNamed qcs=some g):Lib.TabIs P w qcs .u64 Lib.pow10Tab:=(h g (.inl hg)).2.1 hg
theorem Tabs.length {w:World}(h:Tabs P w){g:Nat}(hg:P.globalNamed qg4=some g):∃m,w.cell? ⟨g,0,Option.none⟩=some (.int .i64 m):=(h g (.inr (.inl hg))).2.2.1 hg
theorem qi2 {k:Nat}{args:List qa}{v:qa}(h:∀(K:Nat→Nat→Option Value) (w:World) (vs:List Value),Tabs P w→(∀r o u,K r o=some u→w.cell? ⟨r,o,none⟩=some u)→RepL (.iso K) args vs →
  ∃u,Rep (.iso K) v u∧Calls P k ⟨vs⟩ w fun e w'=>e=.returned u∧Ext w w'):IsoCall P k args v false:=by
 intro K w vs ht h1 h2 hr
 obtain⟨u,hu,hc⟩:=h K w vs ht h1 hr
 refine callsIn_wide.2 (hc.mono ?_)
 rintro e w' ⟨rfl,hx⟩
 exact⟨u,K,rfl,hx,fun _ _ _ h=>h,fun _ _ _=>rfl,fun r o x hk=>hx.cell (h1 r o x hk),h2,hu,fun h=>by cases h⟩
theorem q6w {C:Ctx}{r:Nat}:∀ {xs:List qa} {us:List Value} {o:Nat},RepL C xs us→(∀x∈xs,x.flat=[x])→(∀(j:Nat) u,us[j]?=some u→C.K r (o+j)=some u)→RepRow C r 1 xs o
 | [],_,o,_,_,_=>.rnil _ _ _
 |x::xs,us,o,h,hf,hk=>by
  cases h with
  |cons _ _ u us hx hr=>
   have hx1:=hf x (List.mem_cons_self ..)
   refine .rcons _ _ _ _ _ (by rw[hx1];rfl) ?_ (q6w hr (fun y hy=>hf y (List.mem_cons_of_mem _ hy)) fun j u hj=>?_)
   ·rw[hx1]
    exact .ccons _ _ _ _ u (by have:=hk 0 u rfl;simpa using this) hx (.cnil _ _)
   ·have:=hk (j+1) u (by simpa using hj)
    rw[show o+1+j=o+(j+1) by omega]
    exact this
theorem jdl {k:Nat}{args:List qa}{xs:List qa}{us:List Value}{t:TypeId}(hf:∀x∈xs,x.flat=[x])(hus:∀K,RepL (.iso K) xs us)(h1u:∀u∈us,u.oneCell'=true)
  (h:∀(K:Nat→Nat→Option Value) (w:World) (vs:List Value),Tabs P w→(∀r o u,K r o=some u→w.cell? ⟨r,o,none⟩=some u)→RepL (.iso K) args vs →
  Calls P k ⟨vs⟩ w fun e w'=>e=.returned (.slice (some ⟨w.heap.size,0,none⟩) xs.length xs.length)∧w'=w.alloc (.cells us.toArray t)):IsoCall P k args (.list false 1 xs) false:=by
 intro K w vs ht h1 h2 hr
 refine callsIn_wide.2 ((h K w vs ht h1 hr).mono ?_)
 rintro e w' ⟨rfl,rfl⟩
 have hx:Ext w (w.alloc (.cells us.toArray t)):=Ext.alloc w _ (fun c t fr h=>by cases h;rfl)
 have hno:∀o u,K w.heap.size o=some u→False:=fun o u hk=>by
  have:=h1 _ _ _ hk
  simp only[World.cell?,Array.getElem?_eq_none (Nat.le_refl _)]at this
  cases this
 refine⟨_,fun r o=>if r=w.heap.size then us[o]? else K r o,rfl,hx,?_,?_,?_,?_,?_,fun h=>by cases h⟩
 ·intro r o x hk
  have hne:r≠w.heap.size:=fun e=>hno o x (e▸hk)
  simp only[if_neg hne];exact hk
 ·intro r o hlt
  have hne:r≠w.heap.size:=by omega
  simp only[if_neg hne]
 ·intro r o x hk
  simp only[]at hk
  split at hk
  ·next hr=>
   subst hr
   have hg:(w.alloc (.cells us.toArray t)).heap[w.heap.size]?=some (.cells us.toArray t):=by rw[qdn,if_pos rfl]
   simp only[World.cell?]
   rw[hg]
   simpa using hk
  ·exact hx.cell (h1 r o x hk)
 ·intro r o x hk
  simp only[]at hk
  split at hk
  ·exact h1u x (List.mem_of_getElem? hk)
  ·exact h2 r o x hk
 ·refine .list _ _ _ _ _ (Nat.le_refl _) (q6w (hus _) hf fun j u hj=>?_)
  show(if w.heap.size=w.heap.size then us[0+j]? else K w.heap.size (0+j))=some u
  rw[if_pos rfl,Nat.zero_add];exact hj
theorem IsoCall.shr {k:Nat}{args:List qa}{v:qa}{ow:Bool}(h:IsoCall P k args v ow)(hb:zu 0 args=true)(hp:qea v=true)(hp':j8):qou P k args hp' v false hp':=by
 intro C ω w vs hr m
 have hr':RepL (.iso C.K) args vs:=qp.shift (C:=C) (C':=.iso C.K) 0 (fun _ _ _ h=>h) (fun b r hlt=>by omega) hr hb
 refine CallsIn.mono (h C.K w vs m.tabs m.know m.kone hr') ?_
 rintro e w' ⟨u,K',rfl,q1,q2,q3,q4,q5,q6,_⟩
 refine⟨u,{ C with K:=K' },ω,rfl,⟨q2,fun _ _ h=>h,rfl,fun _ h=>h,fun _ h=>h⟩,m.iso q1 q2 q3 q4 q5,?_,fun h=>by cases h⟩
 exact qp.shift (C:=.iso K') (C':={ C with K:=K' }) 0 (fun _ _ _ h=>h) (fun b r hlt=>by omega) q6 hp
end
open Go
def qj8:List UInt8→List UInt8→Bool
 | [],[]=>true
 |a::l,b::m=>bif Nat.beq a.toNat b.toNat then qj8 l m else false
 |_,_=>false
theorem qps:∀ {l m:List UInt8},qj8 l m=true→l=m
 | [],[],_=>rfl
 | [],_::_,h=>by simp[qj8]at h
 |_::_,[],h=>by simp[qj8]at h
 |a::l,b::m,h=>by
  simp only[qj8,Bool.cond_eq_ite]at h
  split at h
  ·next hb=>rw[UInt8.toNat_inj.1 (Nat.eq_of_beq_eq_true hb),qps h]
  ·exact absurd h (by simp)
def q08:Int→Int→Bool
 | .ofNat a,.ofNat b=>Nat.beq a b
 | .negSucc a,.negSucc b=>Nat.beq a b
 |_,_=>false
theorem q5q:∀ {a b:Int},q08 a b=true→a=b
 | .ofNat _,.ofNat _,h=>by rw[Nat.eq_of_beq_eq_true h]
 | .negSucc _,.negSucc _,h=>by rw[Nat.eq_of_beq_eq_true h]
 | .ofNat _,.negSucc _,h=>by simp[q08]at h
 | .negSucc _,.ofNat _,h=>by simp[q08]at h
mutual
def eqV:qa→qa→Bool
 | .bool a,.bool b=>a == b
 | .int k a,.int k' b=>bif decide (k=k')then q08 a b else false
 | .str a,.str b=>qj8 a b
 | .list a n xs,.list b m ys=>bif a == b then bif Nat.beq n m then eqL xs ys else false else false
 | .agg xs,.agg ys=>eqL xs ys
 | .tup xs,.tup ys=>eqL xs ys
 |_,_=>false
def eqL:List qa→List qa→Bool
 | [],[]=>true
 |a::l,b::m=>bif eqV a b then eqL l m else false
 |_,_=>false
end
mutual
theorem q0h:∀ {a b:qa},eqV a b=true→a=b:=by
 intro a b h
 match a,b with
 | .bool _,.bool _=>simp only[eqV,beq_iff_eq]at h;rw[h]
 | .int k a,.int k' b=>
  simp only[eqV,Bool.cond_eq_ite,decide_eq_true_eq]at h
  split at h
  ·next hk=>rw[hk,q5q h]
  ·exact absurd h (by simp)
 | .str _,.str _=>simp only[eqV]at h;rw[qps h]
 | .list a n xs,.list b m ys=>
  simp only[eqV,Bool.cond_eq_ite,beq_iff_eq]at h
  split at h
  ·next h1=>
   split at h
   ·next h2=>rw[h1,Nat.eq_of_beq_eq_true h2,qg7 h]
   ·exact absurd h (by simp)
  ·exact absurd h (by simp)
 | .agg _,.agg _=>simp only[eqV]at h;rw[qg7 h]
 | .tup _,.tup _=>simp only[eqV]at h;rw[qg7 h]
 | .bool _,.int .. | .bool _,.str _ | .bool _,.list .. | .bool _,.agg _ | .bool _,.tup _=>simp[eqV]at h
 | .int ..,.bool _ | .int ..,.str _ | .int ..,.list .. | .int ..,.agg _ | .int ..,.tup _=>simp[eqV]at h
 | .str _,.bool _ | .str _,.int .. | .str _,.list .. | .str _,.agg _ | .str _,.tup _=>simp[eqV]at h
 | .list ..,.bool _ | .list ..,.int .. | .list ..,.str _ | .list ..,.agg _ | .list ..,.tup _=>simp[eqV]at h
 | .agg _,.bool _ | .agg _,.int .. | .agg _,.str _ | .agg _,.list .. | .agg _,.tup _=>simp[eqV]at h
 | .tup _,.bool _ | .tup _,.int .. | .tup _,.str _ | .tup _,.list .. | .tup _,.agg _=>simp[eqV]at h
 | .ms ..,_ | .ptr ..,_ | .vptr _,_ | .pend _,_ | .nilptr,_ | .map _,_ | .nilmap,_ | .fn ..,_ | .nilfn,_ | .undef,_ | .any,_ | .vref ..,_ | .vel ..,_=>simp[eqV]at h
 | .bool _,.ms .. | .bool _,.ptr .. | .bool _,.vptr _ | .bool _,.pend _ | .bool _,.nilptr | .bool _,.map _ | .bool _,.nilmap | .bool _,.fn .. | .bool _,.nilfn | .bool _,.undef | .bool _,.vref .. | .bool _,.vel ..=>simp[eqV]at h
 | .int ..,.ms .. | .int ..,.ptr .. | .int ..,.vptr _ | .int ..,.pend _ | .int ..,.nilptr | .int ..,.map _ | .int ..,.nilmap | .int ..,.fn .. | .int ..,.nilfn | .int ..,.undef | .int ..,.vref .. | .int ..,.vel ..=>simp[eqV]at h
 | .str ..,.ms .. | .str ..,.ptr .. | .str ..,.vptr _ | .str ..,.pend _ | .str ..,.nilptr | .str ..,.map _ | .str ..,.nilmap | .str ..,.fn .. | .str ..,.nilfn | .str ..,.undef | .str ..,.vref .. | .str ..,.vel ..=>simp[eqV]at h
 | .list ..,.ms .. | .list ..,.ptr .. | .list ..,.vptr _ | .list ..,.pend _ | .list ..,.nilptr | .list ..,.map _ | .list ..,.nilmap | .list ..,.fn .. | .list ..,.nilfn | .list ..,.undef | .list ..,.vref .. | .list ..,.vel ..=>simp[eqV]at h
 | .agg ..,.ms .. | .agg ..,.ptr .. | .agg ..,.vptr _ | .agg ..,.pend _ | .agg ..,.nilptr | .agg ..,.map _ | .agg ..,.nilmap | .agg ..,.fn .. | .agg ..,.nilfn | .agg ..,.undef | .agg ..,.vref .. | .agg ..,.vel ..=>simp[eqV]at h
 | .tup ..,.ms .. | .tup ..,.ptr .. | .tup ..,.vptr _ | .tup ..,.pend _ | .tup ..,.nilptr | .tup ..,.map _ | .tup ..,.nilmap | .tup ..,.fn .. | .tup ..,.nilfn | .tup ..,.undef | .tup ..,.vref .. | .tup ..,.vel ..=>simp[eqV]at h
theorem qg7:∀ {l m:List qa},eqL l m=true→l=m:=by
 intro l m h
 match l,m with
 | [],[]=>rfl
 | [],_::_=>simp[eqL]at h
 |_::_,[]=>simp[eqL]at h
 |a::l,b::m=>
  simp only[eqL,Bool.cond_eq_ite]at h
  split at h
  ·next h1=>rw[q0h h1,qg7 h]
  ·exact absurd h (by simp)
end
abbrev Row:=List qa×qa×Bool
def qh4 (args:List qa):List Row→Option (qa×Bool)
 | []=>none
 |r::l=>bif eqL r.1 args then some r.2 else qh4 args l
theorem qij {args:List qa}{x:qa×Bool}:∀ {l:List Row},qh4 args l=some x→(args,x)∈l
 | [],h=>by simp[qh4]at h
 |r::l,h=>by
  simp only[qh4,Bool.cond_eq_ite]at h
  split at h
  ·next hb=>
   simp only[Option.some.injEq]at h
   rw[←qg7 hb,←h]
   exact List.mem_cons_self ..
  ·exact List.mem_cons_of_mem _ (qij h)
def q4y (tab:Nat→Option (List Row)):qjx:=fun k=>(tab k).map fun l args=>qh4 args l
def q1p (P:Program)(tab:Nat→Option (List Row)):Prop:=
 ∀k l,tab k=some l→∀r∈l,IsoCall P k r.1 r.2.1 r.2.2
def qg1:List (Nat×List Row)→Nat→Option (List Row)
 | [],_=>none
 |(k,l)::t,n=>bif Nat.beq k n then some l else qg1 t n
def qy0 (P:Program)(k:Nat):List Row→Prop
 | []=>True
 |r::l=>IsoCall P k r.1 r.2.1 r.2.2∧qy0 P k l
def jak (P:Program):List (Nat×List Row)→Prop
 | []=>True
 |(k,l)::t=>qy0 P k l∧jak P t
theorem q2n {P:Program}{k:Nat}:∀ {l:List Row},qy0 P k l→∀r∈l,IsoCall P k r.1 r.2.1 r.2.2
 |r::l,h,x,hx=>by
  cases hx with
  |head=>exact h.1
  |tail _ hx=>exact q2n h.2 x hx
theorem q2c {P:Program}:∀ {t:List (Nat×List Row)},jak P t→q1p P (qg1 t)
 |(j,m)::t,h,k,l,hk=>by
  simp only[qg1,Bool.cond_eq_ite]at hk
  split at hk
  ·next hb=>
   rw[Nat.eq_of_beq_eq_true hb]at h
   simp only[Option.some.injEq]at hk
   subst hk
   exact q2n h.1
  ·exact q2c h.2 k l hk
theorem jw8 {P:Program}{t:jb}{tab:Nat→Option (List Row)}{M:q7z}(h:qx P (t.prog (fun _=>none) M))(ht:q1p P tab)(he:∀k l,tab k=some l→Enters P k):qx P (t.prog (q4y tab) M) where
 fn:=h.fn
 prim:=by
  intro k f hf
  simp only[jb.prog,q4y,Option.map_eq_some_iff]at hf
  obtain⟨l,hl,rfl⟩:=hf
  refine⟨he k l hl,fun args v o hv _ _=>ht k l hl _ (qij hv)⟩
 mixed:=h.mixed
 maps:=h.maps
theorem qu9 {P:Program}{p:qt}(h:qx P p){n k b:Nat}{ow:Bool}{h1:j8}{es:List (qa×qa)}(hr:zf p (qbc p n) k [] []=some (.map b,ow,h1))(hb:h1[b]?=some (.map es))(he:qbp 0 es=true):Enters P k∧qyx P k es:=
 q7m h (CodeOk.of' (qts h n).1) (by rw[←ql0];exact hr) hb he
theorem za {P:Program}{p:qt}(h:qx P p){n k:Nat}{args:List qa}{v:qa}{o:Bool}(hr:jy p (qbc p n) k args=some (v,o))(hb:zu 0 args=true:=by rfl):IsoCall P k args v o:=
 q6n h (jb3 hr) hb
end Go.Abs
