/- The executor for the kernel's run. -/
import Derived.Test.YtnjngdcbkkonnaaGreatDoorAbsG
import Derived.WalkKit
import Derived.ProofKit
import Derived.OpenShut
import Derived.ShutString
import Derived.ChangeOld
import Derived.Below
import Derived.Carry
import Derived.KernelRfl
import Derived.CallsIn
set_option linter.unusedVariables false
set_option linter.unusedSimpArgs false
namespace Go.Abs
def qbw {α:Type}(n:Nat)(f:Nat→α):α:=match n with
 |0=>f 0
 |m+1=>f (Nat.succ m)
def qvk {α:Type}(n:Int)(f:Int→α):α:=match n with
 | .ofNat a=>qbw a fun a=>f (.ofNat a)
 | .negSucc a=>qbw a fun a=>f (.negSucc a)
def qi9 {α:Type}(b:Bool)(f:Bool→α):α:=match b with
 |true=>f true
 |false=>f false
def q0b {α:Type}(k:IntKind)(f:IntKind→α):α:=match k with
 | .i8=>f .i8 | .i16=>f .i16 | .i32=>f .i32 | .i64=>f .i64 | .u8=>f .u8 | .u16=>f .u16 | .u32=>f .u32 | .u64=>f .u64
def qg7 {α:Type}:List UInt8→(List UInt8→α)→α
 | [],f=>f []
 |c::s,f=>qg7 s fun s=>f (c::s)
def qyx {α:Type}(g:Fn)(f:Fn→α):α:=match g with
 | .func k=>qbw k fun k=>f (.func k)
 | .yield k=>qbw k fun k=>f (.yield k)
 |g=>f g
mutual
def qbi {α:Type}:qa→(qa→α)→α
 | .bool b,f=>qi9 b fun b=>f (.bool b)
 | .int k n,f=>q0b k fun k=>qvk n fun n=>f (.int k n)
 | .str s,f=>qg7 s fun s=>f (.str s)
 | .list b sz xs,f=>qi9 b fun b=>qbw sz fun sz=>qho xs fun xs=>f (.list b sz xs)
 | .ms b o l,f=>qbw b fun b=>qbw o fun o=>qbw l fun l=>f (.ms b o l)
 | .ptr b o,f=>qbw b fun b=>qbw o fun o=>f (.ptr b o)
 | .vptr v,f=>qbi v fun v=>f (.vptr v)
 | .nilptr,f=>f .nilptr
 | .map b,f=>qbw b fun b=>f (.map b)
 | .nilmap,f=>f .nilmap
 | .fn g a c,f=>qyx g fun g=>qho a fun a=>qho c fun c=>f (.fn g a c)
 | .nilfn,f=>f .nilfn
 | .agg cs,f=>qho cs fun cs=>f (.agg cs)
 | .tup cs,f=>qho cs fun cs=>f (.tup cs)
 | .undef,f=>f .undef
 | .any,f=>f .any
def qho {α:Type}:List qa→(List qa→α)→α
 | [],f=>f []
 |x::xs,f=>qbi x fun x=>qho xs fun xs=>f (x::xs)
end
def qml {α:Type}:Env→(Env→α)→α
 | [],f=>f []
 |(t,v,o)::e,f=>qbw t fun t=>qbi v fun v=>qi9 o fun o=>qml e fun e=>f ((t,v,o)::e)
def qke {α:Type}:List (qa×Bool)→(List (qa×Bool)→α)→α
 | [],f=>f []
 |(v,o)::e,f=>qbi v fun v=>qi9 o fun o=>qke e fun e=>f ((v,o)::e)
def qhp {α:Type}:List (qa×qa)→(List (qa×qa)→α)→α
 | [],f=>f []
 |(k,v)::e,f=>qbi k fun k=>qbi v fun v=>qhp e fun e=>f ((k,v)::e)
def qr0 {α:Type}(x:Option qj)(f:Option qj→α):α:=match x with
 |none=>f none
 |some .normal=>f (some .normal)
 |some (.exit id)=>qbw id fun id=>f (some (.exit id))
 |some .ret=>f (some .ret)
def qvx {α:Type}:qq→(qq→α)→α
 | .hole,f=>f .hole
 | .cells cs,f=>qke cs fun cs=>f (.cells cs)
 | .map es,f=>qhp es fun es=>f (.map es)
 | .iter s pos,f=>qbw pos fun pos=>f (.iter s pos)
 | .bld t e l,f=>qg7 l fun l=>f (.bld t e l)
 | .dead,f=>f .dead
 | .loop l,f=>qml l.env fun e=>qr0 l.pending fun x=>f (.loop ⟨e,l.params,l.assign,l.body,x⟩)
def qnh {α:Type}:ze→(ze→α)→α
 | [],f=>f []
 |b::h,f=>qvx b fun b=>qnh h fun h=>f (b::h)
def qpe {α:Type}(st:qd)(f:qd→α):α:=qml st.env fun e=>qnh st.heap fun h=>f ⟨e,h⟩
section
variable {α:Type}
theorem qco (n:Nat)(f:Nat→α):qbw n f=f n:=by cases n<;>rfl
theorem q55 (n:Int)(f:Int→α):qvk n f=f n:=by cases n<;>simp[qvk,qco]
theorem qhe (n:Bool)(f:Bool→α):qi9 n f=f n:=by cases n<;>rfl
theorem q2e (n:IntKind)(f:IntKind→α):q0b n f=f n:=by cases n<;>rfl
theorem qjz:∀ (s:List UInt8) (f:List UInt8→α),qg7 s f=f s
 | [],_=>rfl
 |c::s,f=>by simp only[qg7];rw[qjz s]
theorem q76 (g:Fn)(f:Fn→α):qyx g f=f g:=by cases g<;>simp[qyx,qco]
mutual
theorem qjp:∀ (v:qa) (f:qa→α),qbi v f=f v
 | .bool b,f=>by simp only[qbi,qhe]
 | .int k n,f=>by simp only[qbi,q2e,q55]
 | .str s,f=>by simp only[qbi,qjz]
 | .list b sz xs,f=>by simp only[qbi,qhe,qco];rw[qgu xs]
 | .ms b o l,f=>by simp only[qbi,qco]
 | .ptr b o,f=>by simp only[qbi,qco]
 | .vptr v,f=>by simp only[qbi];rw[qjp v]
 | .nilptr,f=>by simp only[qbi]
 | .map b,f=>by simp only[qbi,qco]
 | .nilmap,f=>by simp only[qbi]
 | .fn g a c,f=>by simp only[qbi,q76];rw[qgu a,qgu c]
 | .nilfn,f=>by simp only[qbi]
 | .agg cs,f=>by simp only[qbi];rw[qgu cs]
 | .tup cs,f=>by simp only[qbi];rw[qgu cs]
 | .undef,f=>by simp only[qbi]
 | .any,f=>by simp only[qbi]
theorem qgu:∀ (l:List qa) (f:List qa→α),qho l f=f l
 | [],f=>by simp only[qho]
 |x::xs,f=>by simp only[qho];rw[qjp x,qgu xs]
end
theorem qns:∀ (e:Env) (f:Env→α),qml e f=f e
 | [],_=>rfl
 |(t,v,o)::e,f=>by simp only[qml,qco,qjp,qhe];rw[qns e]
theorem qrb:∀ (e:List (qa×Bool)) (f:List (qa×Bool)→α),qke e f=f e
 | [],_=>rfl
 |(v,o)::e,f=>by simp only[qke,qjp,qhe];rw[qrb e]
theorem qms:∀ (e:List (qa×qa)) (f:List (qa×qa)→α),qhp e f=f e
 | [],_=>rfl
 |(v,o)::e,f=>by simp only[qhp,qjp];rw[qms e]
theorem q31 (x:Option qj)(f:Option qj→α):qr0 x f=f x:=by
 cases x with
 |none=>rfl
 |some x=>cases x<;>simp[qr0,qco]
theorem q5s (b:qq)(f:qq→α):qvx b f=f b:=by
 cases b<;>simp[qvx,qrb,qms,qco,qjz,qns,q31]
theorem qta:∀ (h:ze) (f:ze→α),qnh h f=f h
 | [],_=>rfl
 |b::h,f=>by simp only[qnh,q5s];rw[qta h]
theorem qq4 (st:qd)(f:qd→α):qpe st f=f st:=by simp only[qpe,qns,qta]
end
def kx (p:qo):Nat→XC
 |0,_,_=>none
 |n+1,c,st=>match c with
  | .skip=>some (.normal,st)
  | .region na ops keep=>match qcm p (kx p n) na ops keep st with
   |some (x,st')=>qpe st' fun s=>some (x,s)
   |none=>none
  | .seq a b=>match kx p n a st with
   |some (.normal,st')=>kx p n b st'
   |r=>r
  | .cond c a b=>match zf st.env c with
   |some (.bool t)=>bif t then kx p n a st else kx p n b st
   |_=>none
  | .block id body=>match kx p n body st with
   |some (.exit id',st')=>bif Nat.beq id' id then some (.normal,st')else some (.exit id',st')
   |r=>r
  | .loop body=>match kx p n body st with
   |some (.normal,st')=>qpe (gc st.heap.length st') fun s=>kx p n (.loop body) s
   |r=>r
  | .rangeFunc f params assign body=>match qdd p (kx p n) f params assign body st with
   |some (x,st')=>qpe st' fun s=>some (x,s)
   |none=>none
  | .exit id=>some (.exit id,st)
  | .ret=>some (.ret,st)
  | .grow sz=>match look 0 st.env,look 1 st.env with
   |some (.list true _ _,_),some (.int .i64 (.ofNat m),_)=>bif Nat.blt 0 m&&Nat.ble m 1073741824 then some (.normal,{ st with env:=[(0,.list false sz [],true)] })else none
   |_,_=>none
  | .stuck=>none
theorem qr6 (p:qo):∀n,kx p n=yh p n
 |0=>by funext c st;rfl
 |n+1=>by
  have ih:=qr6 p n
  funext c st
  cases c with
  |region na ops keep=>
   simp only[kx,yh,ih]
   cases qcm p (yh p n) na ops keep st with
   |none=>rfl
   |some r=>simp only[qq4]
  |rangeFunc f ps a b=>
   simp only[kx,yh,ih]
   cases qdd p (yh p n) f ps a b st with
   |none=>rfl
   |some r=>simp only[qq4]
  |loop body=>
   simp only[kx,yh,ih,qq4]
   rfl
  |_=>simp only[kx,yh,ih]<;>rfl
inductive qz where
 |leaf (k:Nat) (f:qk)
 |node (m:Nat) (a b:qz)
def qz.find:qz→Nat→Option qk
 | .leaf k f,n=>bif Nat.beq k n then some f else none
 | .node m a b,n=>bif Nat.blt n m then a.find n else b.find n
def qz.All (Q:Nat→qk→Prop):qz→Prop
 | .leaf k f=>Q k f
 | .node _ a b=>a.All Q∧b.All Q
theorem qz.find_all {Q:Nat→qk→Prop}:∀ {t:qz} {k:Nat} {f:qk},t.All Q→t.find k=some f→Q k f
 | .leaf j g,k,f,h,hf=>by
  simp only[qz.find]at hf
  cases hb:Nat.beq j k with
  |false=>simp[hb]at hf
  |true=>
   have:=Nat.eq_of_beq_eq_true hb
   subst this
   simp only[hb,cT,Option.some.injEq]at hf
   subst hf;exact h
 | .node m a b,k,f,h,hf=>by
  simp only[qz.find]at hf
  cases hb:Nat.blt k m with
  |true=>simp only[hb,cT]at hf;exact qz.find_all h.1 hf
  |false=>simp only[hb,cF]at hf;exact qz.find_all h.2 hf
def qz.prog (t:qz)(prims:qi3)(maps:q9f:=fun _=>none):qo:={ fns:=t.find,prims:=prims,maps:=maps }
theorem jcb {p:qo}{n k:Nat}{args:List qa}{r:Option (qa×Bool)}(h:zb p (kx p n) k args=r):zb p (yh p n) k args=r:=by
 rw[←qr6];exact h
def Kw (w:World):Nat→Nat→Option Value:=fun r o=>(w.cell? ⟨r,o,none⟩).filter (·.oneCell')
theorem jwl {w:World}{r o:Nat}{v:Value}(h:w.cell? ⟨r,o,none⟩=some v)(h1:v.oneCell'=true):Kw w r o=some v:=by simp[Kw,h,h1]
theorem q66 {w:World}{r o:Nat}{v:Value}(h:Kw w r o=some v):w.cell? ⟨r,o,none⟩=some v∧v.oneCell'=true:=by
 unfold Kw at h;rw[Option.filter_eq_some_iff]at h;exact h
def qgq (P:Program)(t:TypeId):Bool:=match P.underlying t with
 |some (.struct _)=>true
 |some (.array _ _)=>true
 |_=>false
def q13 (P:Program):Nat→List Field→Bool
 |_,[]=>true
 |o,f::fs=>f.offset == o&&q13 P (o+P.cellsOf f.type) fs
def qm6 (P:Program)(fs:List Field):Nat:=(fs.map fun f=>P.cellsOf f.type).sum
def qfa (P:Program):Nat→TypeId→Bool
 |0,_=>false
 |n+1,t=>match P.underlying t with
  |some .bool=>P.cellsOf t == 1
  |some (.int _)=>P.cellsOf t == 1
  |some .string=>P.cellsOf t == 1
  |some (.slice e)=>P.cellsOf t == 1&&qfa P n e&&decide (0<P.cellsOf e)
  |some (.struct fs)=>q13 P 0 fs.toList&&qm6 P fs.toList == P.cellsOf t&&fs.toList.all fun f=>qfa P n f.type
  |some (.array k e)=>P.cellsOf t == k*P.cellsOf e&&qfa P n e
  |_=>false
def qpu (ty:TypeId→List qa→Prop):List Field→List qa→Prop
 | [],cs=>cs=[]
 |f::fs,cs=>∃ys zs,cs=ys++zs∧ty f.type ys∧qpu ty fs zs
def qmq (ty:List qa→Prop):Nat→List qa→Prop
 |0,cs=>cs=[]
 |k+1,cs=>∃ys zs,cs=ys++zs∧ty ys∧qmq ty k zs
def qah (P:Program):Nat→TypeId→List qa→Prop
 |0,_,_=>False
 |n+1,t,cs=>match P.underlying t with
  |some .bool=>∃b,cs=[.bool b]
  |some (.int k)=>∃m,cs=[.int k m]∧(Lit.int k m).wf=true
  |some .string=>∃s,cs=[.str s]∧s.length≤maxLen
  |some (.slice e)=>cs=[.list true 0 []]∨∃xs,cs=[.list false (P.cellsOf e) xs]∧xs.length≤maxLen∧∀y∈xs,qah P n e y.flat∧y.isAgg=qgq P e
  |some (.struct fs)=>qpu (qah P n) fs.toList cs
  |some (.array k e)=>qmq (qah P n e) k cs
  |_=>False
section
variable {P:Program}{H:Type}{enc:TypeId×Value→H}{w:World}
theorem q05:∀ (fs:List Field) (o:Nat) (vs:List Value),q13 P o fs=true→vs.length=o+qm6 P fs→vs.drop o=(fs.map fun f=>(vs.drop f.offset).take (P.cellsOf f.type)).flatten
 | [],o,vs,_,hl=>by simp[qm6]at hl;simp[hl]
 |f::fs,o,vs,ht,hl=>by
  simp only[q13,Bool.and_eq_true,beq_iff_eq]at ht
  obtain⟨rfl,ht⟩:=ht
  have ih:=q05 fs _ vs ht (by simp[qm6]at hl ⊢;omega)
  rw[List.map_cons,List.flatten_cons,←ih,←List.drop_drop,List.take_append_drop]
theorem qks {α β:Type}{f:α→Option β}:∀ {l:List α} {ys:List β},l.mapM f=some ys→ys.length=l.length∧∀(i:Nat) (x:α),l[i]?=some x→∃y,ys[i]?=some y∧f x=some y
 | [],ys,h=>by simp at h;subst h;simp
 |a::l,ys,h=>by
  rw[List.mapM_cons]at h
  cases hf:f a with
  |none=>simp[hf]at h
  |some y=>
   cases hr:l.mapM f with
   |none=>simp[hf,hr]at h
   |some zs=>
    simp[hf,hr]at h
    subst h
    obtain⟨h1,h2⟩:=qks hr
    refine⟨by simp[h1],fun i x hx=>?_⟩
    cases i with
    |zero=>simp at hx;subst hx;exact⟨y,rfl,hf⟩
    |succ i=>simp at hx;obtain⟨z,h3,h4⟩:=h2 i x hx;exact⟨z,by simpa using h3,h4⟩
theorem q26 {base n:Nat}{a:Addr}{vs:List Value}(h:w.cells? base a n=some vs):vs.length=n∧∀(i:Nat) (v:Value),vs[i]?=some v→w.cell? (a.add i)=some v:=by
 unfold World.cells? at h
 split at h
 ·obtain⟨h1,h2⟩:=qks h
  rw[List.length_range]at h1
  refine⟨h1,fun i v hv=>?_⟩
  have hi:i<n:=by rw[←h1];exact(List.getElem?_eq_some_iff.1 hv).1
  obtain⟨y,h3,h4⟩:=h2 i i (by rw[List.getElem?_range hi])
  rw[hv]at h3;cases h3;exact h4
 ·cases h
theorem qx5 {ty:TypeId→List qa→Prop}:∀(fs:List Field) (vss:List (List Value)),vss.length=fs.length→(∀(i:Nat) (f:Field) (vs:List Value),fs[i]?=some f→vss[i]?=some vs→∃cs,RepL (.iso (Kw w)) cs vs∧ty f.type cs)→∃cs,RepL (.iso (Kw w)) cs vss.flatten∧qpu ty fs cs
 | [],vss,hl,_=>by
  have:vss=[]:=List.length_eq_zero_iff.1 (by simpa using hl)
  subst this
  exact⟨[],.nil,rfl⟩
 |f::fs,[],hl,_=>by simp at hl
 |f::fs,vs::vss,hl,h=>by
  obtain⟨ys,h1,h2⟩:=h 0 f vs rfl rfl
  obtain⟨zs,h3,h4⟩:=qx5 fs vss (by simpa using hl) (fun i f' vs' hf hv=>h (i+1) f' vs' (by simpa using hf) (by simpa using hv))
  exact⟨ys++zs,RepL.append h1 h3,ys,zs,rfl,h2,h4⟩
theorem qu3 {ty:List qa→Prop}:∀(k:Nat) (vss:List (List Value)),vss.length=k→(∀(i:Nat) vs,vss[i]?=some vs→∃cs,RepL (.iso (Kw w)) cs vs∧ty cs)→∃cs,RepL (.iso (Kw w)) cs vss.flatten∧qmq ty k cs
 |0,vss,hl,_=>by
  have:vss=[]:=List.length_eq_zero_iff.1 hl
  subst this
  exact⟨[],.nil,rfl⟩
 |k+1,[],hl,_=>by simp at hl
 |k+1,vs::vss,hl,h=>by
  obtain⟨ys,h1,h2⟩:=h 0 vs rfl
  obtain⟨zs,h3,h4⟩:=qu3 k vss (by simpa using hl) (fun i vs' hv=>h (i+1) vs' (by simpa using hv))
  exact⟨ys++zs,RepL.append h1 h3,ys,zs,rfl,h2,h4⟩
theorem q6k (n:Nat):∀(k:Nat) (vs:List Value),vs.length=k*n→vs=((List.range k).map fun i=>(vs.drop (i*n)).take n).flatten
 |0,vs,hl=>by
  have:vs=[]:=List.length_eq_zero_iff.1 (by simpa using hl)
  simp[this]
 |k+1,vs,hl=>by
  have ih:=q6k n k (vs.drop n) (by simp[hl,Nat.succ_mul])
  rw[List.range_succ_eq_map,List.map_cons,List.flatten_cons,List.map_map]
  have e:(List.range k).map ((fun i=>(vs.drop (i*n)).take n) ∘ Nat.succ)=(List.range k).map fun i=>((vs.drop n).drop (i*n)).take n:=by
   apply List.map_congr_left
   intro i _
   simp only[Function.comp,List.drop_drop]
   congr 2
   rw[Nat.succ_mul];omega
  rw[e,←ih]
  simp
theorem qj1:∀ {n:Nat} {t:TypeId} {cs:List qa},qah P n t cs→∀x∈cs,zh x=true
 |0,_,_,h=>h.elim
 |n+1,t,cs,h=>by
  have fsc:∀(fs:List Field) (cs:List qa),qpu (qah P n) fs cs→∀x∈cs,zh x=true:=by
   intro fs
   induction fs with
   |nil=>intro cs h;simp only[qpu]at h;subst h;simp
   |cons f fs ih=>
    rintro cs ⟨ys,zs,rfl,h1,h2⟩ x hx
    rcases List.mem_append.1 hx with hx|hx
    ·exact qj1 h1 x hx
    ·exact ih _ h2 x hx
  have rsc:∀(e:TypeId) (k:Nat) (cs:List qa),qmq (qah P n e) k cs→∀x∈cs,zh x=true:=by
   intro e k
   induction k with
   |zero=>intro cs h;simp only[qmq]at h;subst h;simp
   |succ k ih=>
    rintro cs ⟨ys,zs,rfl,h1,h2⟩ x hx
    rcases List.mem_append.1 hx with hx|hx
    ·exact qj1 h1 x hx
    ·exact ih _ h2 x hx
  simp only[qah]at h
  split at h
  ·obtain⟨b,rfl⟩:=h;simp[zh]
  ·obtain⟨m,rfl,_⟩:=h;simp[zh]
  ·obtain⟨s,rfl,_⟩:=h;simp[zh]
  ·rcases h with rfl|⟨xs,rfl,_⟩<;>simp[zh]
  ·exact fsc _ _ h
  ·exact rsc _ _ _ h
  ·exact h.elim
theorem qw7 {n:Nat}{t:TypeId}{cs:List qa}(h:qah P n t cs)(ha:qgq P t=false):∃x,cs=[x]∧x.isAgg=false:=by
 cases n with
 |zero=>exact h.elim
 |succ n=>
  unfold qgq at ha
  simp only[qah]at h
  split at h
  ·obtain⟨b,rfl⟩:=h;exact⟨_,rfl,rfl⟩
  ·obtain⟨m,rfl,_⟩:=h;exact⟨_,rfl,rfl⟩
  ·obtain⟨s,rfl,_⟩:=h;exact⟨_,rfl,rfl⟩
  ·rcases h with rfl|⟨xs,rfl,_⟩<;>exact⟨_,rfl,rfl⟩
  ·rename_i hu;rw[hu]at ha;cases ha
  ·rename_i hu;rw[hu]at ha;cases ha
  ·exact h.elim
theorem read {held:Bool}:∀(n fuel:Nat) (t:TypeId) (vs:List Value) (d:DataW H) (ps:List MemPlace),qfa P n t=true→DataW.trod enc P w 0 (fun _=>true) held fuel t vs=some (d,ps) →
  ∃cs,RepL (.iso (Kw w)) cs vs∧qah P n t cs∧cs.length=P.cellsOf t
 |0,_,_,_,_,_,hp,_=>by simp[qfa]at hp
 |n+1,0,_,_,_,_,_,h=>by simp[DataW.trod]at h
 |n+1,fuel+1,t,vs,d,ps,hp,h=>by
  simp only[qfa]at hp
  simp only[qah]
  simp only[DataW.trod]at h
  cases hu:P.underlying t with
  |none=>simp[hu]at hp
  |some td=>
   rw[hu]at h hp
   cases td with
   |bool=>
    simp only[beq_iff_eq]at hp
    split at h<;>first|cases ‹some _=some _› | skip
    all_goals first|(rename_i heq;cases heq;done)|skip
    ·exact⟨_,.cons _ _ _ _ (.bool _) .nil,⟨_,rfl⟩,by simp[hp]⟩
    ·cases h
   |int k=>
    simp only[beq_iff_eq]at hp
    split at h<;>first|cases ‹some _=some _› | skip
    all_goals first|(rename_i heq;cases heq;done)|skip
    ·split at h
     ·rename_i hk
      obtain⟨rfl,hk2⟩:=hk
      exact⟨_,.cons _ _ _ _ (.int _ _) .nil,⟨_,rfl,hk2⟩,by simp[hp]⟩
     ·cases h
    ·cases h
   |string=>
    simp only[beq_iff_eq]at hp
    split at h<;>first|cases ‹some _=some _› | skip
    all_goals first|(rename_i heq;cases heq;done)|skip
    ·rename_i s
     split at h
     ·rename_i hk
      refine⟨[.str s.data.toList],.cons _ _ _ _ (qm.str s.data.toList) .nil,⟨_,rfl,?_⟩,by simp[hp]⟩
      simpa using hk
     ·cases h
    ·cases h
   |slice e=>
    simp only[Bool.and_eq_true,beq_iff_eq,decide_eq_true_eq]at hp
    obtain⟨⟨hp1,hp2⟩,hp3⟩:=hp
    split at h<;>first|cases ‹some _=some _› | skip
    all_goals first|(rename_i heq;cases heq;done)|skip
    ·exact⟨_,.cons _ _ _ _ (.lnil 0) .nil,.inl rfl,by simp[hp1]⟩
    ·rename_i a len cap
     split at h
     ·rename_i hk
      obtain⟨_,hk2,hk3⟩:=hk
      cases he:(List.range len).mapM (fun i=>(w.cells? 0 (a.add (i*P.cellsOf e)) (P.cellsOf e)).bind (DataW.trod enc P w 0 (fun _=>true) held fuel e))with
      |none=>simp[he]at h
      |some elems=>
       simp only[he,Option.bind_some,if_true]at h
       cases hr:(List.range (cap-len)).mapM (fun j=>(w.cells? 0 (a.add ((len+j)*P.cellsOf e)) (P.cellsOf e)).bind (DataW.trod enc P w 0 (fun _=>true) held fuel e))with
       |none=>simp[hr]at h
       |some rest=>
        obtain⟨he1,he2⟩:=qks he
        obtain⟨hr1,hr2⟩:=qks hr
        rw[List.length_range]at he1 hr1
        have hspot:0<cap→a.spot=none:=fun hc=>by
         have hz0:∃z,(w.cells? 0 (a.add (0*P.cellsOf e)) (P.cellsOf e)).bind (DataW.trod enc P w 0 (fun _=>true) held fuel e)=some z:=by
          by_cases hl:0<len
          ·obtain⟨y,_,hy⟩:=he2 0 0 (by rw[List.getElem?_range hl]);exact⟨y,hy⟩
          ·obtain⟨y,_,hy⟩:=hr2 0 0 (by rw[List.getElem?_range (by omega)])
           have hl0:len=0:=by omega
           subst hl0
           exact⟨y,by simpa using hy⟩
         obtain⟨z0,hz0⟩:=hz0
         cases hc0:w.cells? 0 (a.add (0*P.cellsOf e)) (P.cellsOf e)with
         |none=>rw[hc0]at hz0;cases hz0
         |some us0=>
          obtain⟨d1,d2⟩:=q26 hc0
          have hcc:=d2 0 _ (List.getElem?_eq_getElem (show 0<us0.length by omega))
          have:=World.cell?_spot hcc
          simpa[Addr.add]using this
        by_cases hcap:0<cap
        ·have hs0:=hspot hcap
         obtain⟨r,o,sp⟩:=a
         simp only at hs0
         subst hs0
         have elem:∀(i:Nat),i<len→∃y:qa,RepC (.iso (Kw w)) r y.flat (o+i*P.cellsOf e)∧y.flat.length=P.cellsOf e∧qah P n e y.flat∧y.isAgg=qgq P e:=by
          intro i hi
          obtain⟨z,_,hz⟩:=he2 i i (by rw[List.getElem?_range hi])
          cases hc:w.cells? 0 ((⟨r,o,none⟩:Addr).add (i*P.cellsOf e)) (P.cellsOf e)with
          |none=>simp[hc]at hz
          |some us=>
           simp only[hc,Option.bind_some]at hz
           obtain⟨c1,c2⟩:=q26 hc
           obtain⟨cs,k1,k2,k3⟩:=read n fuel e us z.1 z.2 hp2 hz
           have hone:=qea k1 (qj1 k2)
           have hcs:RepC (.iso (Kw w)) r cs (o+i*P.cellsOf e):=RepC.of_vals k1 fun j v hj=>by
            have h1:=c2 j v hj
            rw[add_lit,add_lit]at h1
            exact jwl h1 (hone v (List.mem_of_getElem? hj))
           cases hag:qgq P e with
           |true=>exact⟨.agg cs,hcs,k3,k2,rfl⟩
           |false=>
            obtain⟨x,rfl,hx⟩:=qw7 k2 hag
            have hf:x.flat=[x]:=qc5 hx
            exact⟨x,by rw[hf];exact hcs,by rw[hf];exact k3,by rw[hf];exact k2,hx⟩
         have rows:∀(m:Nat) (q:Nat),q+m=len→∃ys:List qa,ys.length=m∧RepRow (.iso (Kw w)) r (P.cellsOf e) ys (o+q*P.cellsOf e)∧∀y∈ys,qah P n e y.flat∧y.isAgg=qgq P e:=by
          intro m
          induction m with
          |zero=>intro q _;exact⟨[],rfl,.rnil _ _ _,by simp⟩
          |succ m ih=>
           intro q hq
           obtain⟨ys,y1,y2,y3⟩:=ih (q+1) (by omega)
           obtain⟨y,z1,z2,z3⟩:=elem q (by omega)
           refine⟨y::ys,by simp[y1],.rcons _ _ _ _ _ z2 z1 ?_,?_⟩
           ·rw[show o+q*P.cellsOf e+P.cellsOf e=o+(q+1)*P.cellsOf e from by rw[Nat.succ_mul];omega];exact y2
           ·intro x hx
            rcases List.mem_cons.1 hx with rfl|hx
            ·exact z3
            ·exact y3 x hx
         obtain⟨ys,y1,y2,y3⟩:=rows len 0 (by omega)
         rw[Nat.zero_mul,Nat.add_zero]at y2
         subst y1
         exact⟨_,.cons _ _ _ _ (.list (P.cellsOf e) ys r o cap hk2 y2) .nil,.inr ⟨ys,rfl,by omega,y3⟩,by simp[hp1]⟩
        ·have hc0:cap=0:=by omega
         have hl0:len=0:=by omega
         subst hc0;subst hl0
         by_cases hsp:a.spot=none
         ·obtain⟨r,o,sp⟩:=a
          simp only at hsp
          subst hsp
          exact⟨_,.cons _ _ _ _ (.list (P.cellsOf e) [] r o 0 (by simp) (.rnil _ _ _)) .nil,.inr ⟨[],rfl,by simp,by simp⟩,by simp[hp1]⟩
         ·exact⟨_,.cons _ _ _ _ (.lemp (P.cellsOf e) a hsp) .nil,.inr ⟨[],rfl,by simp,by simp⟩,by simp[hp1]⟩
     ·cases h
    ·cases h
   |struct fs=>
    simp only[Bool.and_eq_true,beq_iff_eq,List.all_eq_true]at hp
    obtain⟨⟨hp1,hp2⟩,hp3⟩:=hp
    change (if vs.length=P.cellsOf t then(fs.toList.mapM fun f=>DataW.trod enc P w 0 (fun _=>true) held fuel f.type ((vs.drop f.offset).take (P.cellsOf f.type))).map fun xs=>(DataW.agg (xs.map (·.1)),xs.flatMap (·.2))else none)=some (d,ps)at h
    ·split at h
     ·rename_i hl
      cases hm:fs.toList.mapM (fun f=>DataW.trod enc P w 0 (fun _=>true) held fuel f.type ((vs.drop f.offset).take (P.cellsOf f.type)))with
      |none=>simp[hm]at h
      |some zs=>
       obtain⟨m1,m2⟩:=qks hm
       have hcut:=q05 fs.toList 0 vs hp1 (by omega)
       obtain⟨cs,k1,k2⟩:=qx5 (w:=w) (ty:=qah P n) fs.toList (fs.toList.map fun f=>(vs.drop f.offset).take (P.cellsOf f.type)) (by simp) (fun i f us hf hv=>by
        obtain⟨z,_,hz⟩:=m2 i f hf
        have hus:us=(vs.drop f.offset).take (P.cellsOf f.type):=by
         rw[List.getElem?_map,hf]at hv
         simpa using hv.symm
        subst hus
        obtain⟨cs,q1,q2,_⟩:=read n fuel f.type _ z.1 z.2 (hp3 f (List.mem_of_getElem? hf)) hz
        exact⟨cs,q1,q2⟩)
       rw[←hcut]at k1
       exact⟨cs,by simpa using k1,k2,by have:=k1.length;simp at this;omega⟩
     ·cases h
   |array k e=>
    simp only[Bool.and_eq_true,beq_iff_eq]at hp
    obtain⟨hp1,hp2⟩:=hp
    change (if vs.length=P.cellsOf t then((List.range k).mapM fun i=>DataW.trod enc P w 0 (fun _=>true) held fuel e ((vs.drop (i*P.cellsOf e)).take (P.cellsOf e))).map fun xs=>(DataW.agg (xs.map (·.1)),xs.flatMap (·.2))else none)=some (d,ps)at h
    ·split at h
     ·rename_i hl
      cases hm:(List.range k).mapM (fun i=>DataW.trod enc P w 0 (fun _=>true) held fuel e ((vs.drop (i*P.cellsOf e)).take (P.cellsOf e)))with
      |none=>simp[hm]at h
      |some zs=>
       obtain⟨m1,m2⟩:=qks hm
       have hcut:=q6k (P.cellsOf e) k vs (by omega)
       obtain⟨cs,k1,k2⟩:=qu3 (w:=w) (ty:=qah P n e) k ((List.range k).map fun i=>(vs.drop (i*P.cellsOf e)).take (P.cellsOf e)) (by simp) (fun i us hv=>by
        have hi:i<k:=by
         have:=(List.getElem?_eq_some_iff.1 hv).1
         simpa using this
        obtain⟨z,_,hz⟩:=m2 i i (by rw[List.getElem?_range hi])
        have hus:us=(vs.drop (i*P.cellsOf e)).take (P.cellsOf e):=by
         rw[List.getElem?_map,List.getElem?_range hi]at hv
         simpa using hv.symm
        subst hus
        obtain⟨cs,q1,q2,_⟩:=read n fuel e _ z.1 z.2 hp2 hz
        exact⟨cs,q1,q2⟩)
       rw[←hcut]at k1
       exact⟨cs,k1,k2,by have:=k1.length;omega⟩
     ·cases h
   |_=>simp at hp
end
open Go.ChangeShapes Go.WideShapes Go.ChangeAt Go.RowKit
section
variable {P:Program}{H:Type}{enc:TypeId×Value→H}{w:World}
def jaq (P:Program)(n:Nat)(t:TypeId)(x:qa):Prop:=qah P n t x.flat∧x.isAgg=qgq P t
def qpw (P:Program)(n:Nat):List TypeId→List qa→Prop
 | [],xs=>xs=[]
 |t::ts,xs=>∃y ys,xs=y::ys∧jaq P n t y∧qpw P n ts ys
theorem jjv {n:Nat}{t:TypeId}{v:Value}{d:DataW H}{ps:List MemPlace}{base:Nat}(hp:qfa P n t=true)(hv:Value.okWide P w .any base t v)(h:DataW.Trod enc P w 0 (fun _=>true) true t v d ps):∃x,Rep (.iso (Kw w)) x v∧jaq P n t x:=by
 obtain⟨fuel,hf⟩:=h
 obtain⟨cs,k1,k2,k3⟩:=read n fuel t _ d ps hp hf
 cases hag:qgq P t with
 |true=>
  have hvv:∃cells,v=.agg cells:=by
   unfold qgq at hag
   unfold Value.okWide at hv
   split at hag
   ·rename_i fs hu;rw[hu]at hv;obtain⟨c,hc,_⟩:=hv;exact⟨c,hc⟩
   ·rename_i a b hu;rw[hu]at hv;obtain⟨c,hc,_⟩:=hv;exact⟨c,hc⟩
   ·cases hag
  obtain⟨cells,rfl⟩:=hvv
  exact⟨.agg cs,.agg cs cells.toList k1,k2,hag.symm⟩
 |false=>
  obtain⟨x,rfl,hx⟩:=qw7 k2 hag
  have hvv:v.cells.toList=[v]:=by
   cases v with
   |agg c=>
    exfalso
    unfold Value.okWide at hv
    unfold qgq at hag
    cases n with
    |zero=>simp[qfa]at hp
    |succ n=>
     simp only[qfa]at hp
     cases hu:P.underlying t with
     |none=>rw[hu]at hp;cases hp
     |some td=>rw[hu]at hp hv hag;cases td<;>first|(simp at hp;done)|(simp at hag;done)|(simp[Cell.okWide,hu,Cell.ok]at hv;done)
   |_=>rfl
  rw[hvv]at k1
  cases k1 with
  |cons _ _ _ _ h1 _=>exact⟨x,h1,by rw[qc5 hx];exact k2,by rw[hx,hag]⟩
theorem q7m {n:Nat}:∀ {ts:List TypeId} {vs:List Value} {ds:List (DataW H)} {ps:List MemPlace},ts.all (qfa P n)=true→(∀(j:Nat) t v,ts[j]?=some t→vs[j]?=some v→∃base,Value.okWide P w .any base t v)→DataW.TrodAll enc P w 0 (fun _=>true) true ts vs ds ps →
  ds.length=ts.length∧∃xs,RepL (.iso (Kw w)) xs vs∧qpw P n ts xs
 | [],[],[],ps,_,_,_=>⟨rfl,[],.nil,rfl⟩
 | [],[],_::_,ps,_,_,h=>by simp[DataW.TrodAll]at h
 | [],_::_,_,ps,_,_,h=>by simp[DataW.TrodAll]at h
 |_::_,[],_,ps,_,_,h=>by simp[DataW.TrodAll]at h
 |_::_,_::_,[],ps,_,_,h=>by simp[DataW.TrodAll]at h
 |t::ts,v::vs,d::ds,ps,hp,hv,h=>by
  obtain⟨p,q,h1,h2,_⟩:=h
  simp only[List.all_cons,Bool.and_eq_true]at hp
  obtain⟨base,hb⟩:=hv 0 t v rfl rfl
  obtain⟨x,k1,k2⟩:=jjv hp.1 hb h1
  obtain⟨hl,xs,k3,k4⟩:=q7m hp.2 (fun j t' v' ht hv'=>hv (j+1) t' v' (by simpa using ht) (by simpa using hv')) h2
  exact⟨by simp[hl],x::xs,.cons _ _ _ _ k1 k3,x,xs,rfl,k2,k4⟩
theorem Ext.frame {w':World}(h:Ext w w')(may:MemPlace→Prop):w.keptBut w' may:=by
 refine⟨h.os,h.output,fun i hi=>?_⟩
 rw[h.same i hi]
 split<;>simp_all
theorem Ext.sameAt {w':World}(h:Ext w w'){p:MemPlace}(hp:p.block<w.heap.size):w.sameAt w' p:=by
 cases p with
 |cell b o=>exact World.cell?_of_block (w:=w) (h.same b hp)
 |map b=>exact h.same b hp
theorem q45 {w':World}(hx:Ext w w')(hl:laidOutB P=true):∀ {ts:List TypeId} {vs:List Value} {ds:List (DataW H)} {ps:List MemPlace},ts.all (fun t=>P.readableRec t&&decide (t<P.types.size))=true→DataW.TrodAll enc P w 0 (fun _=>true) true ts vs ds ps →
  DataW.TrodAll enc P w' 0 (fun b=>decide (b<w.heap.size)) true ts vs ds ps
 | [],[],[],ps,_,h=>h
 | [],[],_::_,ps,_,h=>by simp[DataW.TrodAll]at h
 | [],_::_,_,ps,_,h=>by simp[DataW.TrodAll]at h
 |_::_,[],_,ps,_,h=>by simp[DataW.TrodAll]at h
 |_::_,_::_,[],ps,_,h=>by simp[DataW.TrodAll]at h
 |t::ts,v::vs,d::ds,ps,hr,h=>by
  obtain⟨p,q,h1,h2,h3⟩:=h
  simp only[List.all_cons,Bool.and_eq_true,decide_eq_true_eq]at hr
  have hlt:∀x∈p,x.block<w.heap.size:=by obtain⟨m,hm⟩:=h1;exact DataW.trod_lt m _ _ _ hm
  exact⟨p,q,WideElems.Trod_stays hl hr.1.1 hr.1.2 h1 (fun x hm=>hx.sameAt (hlt x hm)) (fun x hm=>by simpa using hlt x hm),q45 hx hl hr.2 h2,h3⟩
end
def XLe (f g:XC):Prop:=∀c st r,f c st=some r→g c st=some r
section
variable {p:qo}{f g:XC}
theorem q1o (h:XLe f g){af:qk}{args:List qa}{hp:ze}{r:qa×Bool×ze}(hr:qc4 f af args hp=some r):qc4 g af args hp=some r:=by
 unfold qc4 at *
 cases hb:Nat.ble args.length af.ntmps with
 |false=>simp[hb]at hr
 |true=>
  simp only[hb,cT]at hr ⊢
  split at hr
  ·rename_i st hst;rw[h _ _ _ hst];exact hr
  ·rename_i st hst;rw[h _ _ _ hst];exact hr
  ·cases hr
theorem qno (h:XLe f g){k:Nat}{args:List qa}{hp:ze}{r:qa×Bool×ze}(hr:ye p f k args hp=some r):ye p g k args hp=some r:=by
 unfold ye at *
 split at hr
 ·exact q1o h hr
 ·exact hr
theorem qlv (h:XLe f g){k:Nat}{args:List qa}{r:qa×Bool}(hr:zb p f k args=some r):zb p g k args=some r:=by
 unfold zb at *
 split at hr
 ·exact hr
 ·split at hr
  ·rename_i v o hh hc;rw[qno h hc];exact hr
  ·cases hr
theorem q3l (h:XLe f g){b:Nat}{args:List qa}{hp:ze}{r:qa×ze}(hr:qbn f b args hp=some r):qbn g b args hp=some r:=by
 unfold qbn at *
 split at hr
 ·split at hr
  ·split at hr
   ·rename_i st hst
    rw[h _ _ _ hst]
    simp only[]
    split at hr
    ·rename_i l1 hl1
     cases hp1:l1.pending.isNone with
     |false=>simp[hp1]at hr
     |true=>
      simp only[hp1,cT]at hr ⊢
      split at hr
      ·rename_i x st' hst'
       rw[h _ _ _ hst']
       exact hr
      ·cases hr
    ·cases hr
   ·cases hr
  ·cases hr
 ·cases hr
theorem q1l (h:XLe f g){h0:Nat}{e:Env}{hp:ze}{md:q9}{x:qf}{l:List qf}{r:qn}(hr:qat p f h0 e hp md x l=some r):qat p g h0 e hp md x l=some r:=by
 unfold qat at *
 split at hr
 ·cases md with
  |iso=>
   simp only[]at hr ⊢
   rename_i k first captured vs _ _
   cases hb:yb 0 (first++vs++captured)with
   |false=>rw[hb]at hr;cases hr
   |true=>
    rw[hb]at hr
    simp only[cT]at hr ⊢
    split at hr
    ·rename_i v o hc;rw[qlv h hc];exact hr
    ·cases hr
  |red=>
   simp only[]at hr ⊢
   split at hr
   ·rename_i us hf
    cases hb:yb 0 us with
    |false=>rw[hb]at hr;cases hr
    |true=>
     rw[hb]at hr
     simp only[cT]at hr ⊢
     split at hr
     ·rename_i v o hc;rw[qlv h hc];exact hr
     ·cases hr
   ·cases hr
  |frz _=>
   simp only[]at hr ⊢
   rename_i k first captured vs _ _ _
   cases he:(first++vs++captured).isEmpty with
   |true=>rw[he]at hr;exact hr
   |false=>
    rw[he]at hr
    simp only[cF]at hr ⊢
    cases hb:yb 0 (first++vs++captured)with
    |false=>rw[hb]at hr;cases hr
    |true=>
     rw[hb]at hr
     simp only[cT]at hr ⊢
     split at hr
     ·rename_i v o hc;rw[qlv h hc];exact hr
     ·cases hr
  |shr=>
   simp only[]at hr ⊢
   split at hr
   ·rename_i v o hh hc;rw[qno h hc];exact hr
   ·cases hr
 ·cases md with
  |shr=>
   simp only[]at hr ⊢
   split at hr
   ·rename_i v hh hc;rw[q3l h hc];exact hr
   ·cases hr
  |_=>simp at hr
 ·cases hr
theorem q51 (h:XLe f g){h0:Nat}{al:Option (List Nat)}{e:Env}{hp:ze}{op:qt}{r:qn}(hr:j8 p f h0 al e hp op=some r):j8 p g h0 al e hp op=some r:=by
 cases op with
 |call md x l=>exact q1l h hr
 |append rk sz b x y=>cases rk<;>exact hr
 |mkslice rk sz b z n c=>cases rk<;>exact hr
 |_=>exact hr
theorem qq5 (h:XLe f g){h0:Nat}{o:qp}{st st':qd}(hr:qas p f h0 o st=some st'):qas p g h0 o st=some st':=by
 unfold qas at *
 split at hr
 ·split at hr
  ·rename_i r hs;rw[q51 h hs];exact hr
  ·cases hr
 ·exact hr
 ·cases hr
theorem qrj (h:XLe f g){h0:Nat}:∀ {l:List qp} {st st':qd},qb4 p f h0 l st=some st'→qb4 p g h0 l st=some st'
 | [],_,_,hr=>hr
 |o::l,st,st',hr=>by
  simp only[qb4]at hr ⊢
  split at hr
  ·rename_i s1 h1;rw[qq5 h h1];exact qrj h hr
  ·cases hr
theorem qrk (h:XLe f g){na:Nat}{l:List qp}{k:Option (List Nat)}{st:qd}{r:qj×qd}(hr:qcm p f na l k st=some r):qcm p g na l k st=some r:=by
 unfold qcm at *
 split at hr
 ·rename_i s1 h1;rw[qrj h h1];exact hr
 ·cases hr
theorem qu0 (h:XLe f g){x:qf}{ps:List Nat}{a b:qe}{st:qd}{r:qj×qd}(hr:qdd p f x ps a b st=some r):qdd p g x ps a b st=some r:=by
 unfold qdd at *
 cases hn:(kz a&&kz b)with
 |false=>simp[hn]at hr
 |true=>
  simp only[hn,cT]at hr ⊢
  split at hr
  ·split at hr
   ·rename_i v o hh hc;rw[qno h hc];exact hr
   ·cases hr
  ·cases hr
end
theorem qxp (p:qo):∀n,XLe (yh p n) (yh p (n+1))
 |0=>fun c st r h=>by simp[yh]at h
 |n+1=>by
  have ih:=qxp p n
  intro c st r h
  cases c with
  |region na l k=>simp only[yh]at h ⊢;exact qrk ih h
  |rangeFunc f ps a b=>simp only[yh]at h ⊢;exact qu0 ih h
  |seq a b=>
   rw[yh]at h ⊢
   split at h
   ·rename_i st1 h1
    rw[ih _ _ _ h1];exact ih _ _ _ h
   ·rename_i hne
    rw[ih _ _ _ h]
    split
    ·rename_i st1 h1;cases h1;exact absurd h (hne _)
    ·rfl
  |cond c a b=>
   rw[yh]at h ⊢
   split at h
   ·rename_i t ht
    cases t
    ·simp only[cF]at h ⊢;exact ih _ _ _ h
    ·simp only[cT]at h ⊢;exact ih _ _ _ h
   ·cases h
  |block id b=>
   rw[yh]at h ⊢
   split at h
   ·rename_i id' st1 h1
    rw[ih _ _ _ h1];exact h
   ·rename_i hne
    rw[ih _ _ _ h]
    split
    ·rename_i id' st1 h1;cases h1;exact absurd h (hne _ _)
    ·rfl
  |loop b=>
   rw[yh]at h ⊢
   split at h
   ·rename_i st1 h1
    rw[ih _ _ _ h1];exact ih _ _ _ h
   ·rename_i hne
    rw[ih _ _ _ h]
    split
    ·rename_i st1 h1;cases h1;exact absurd h (hne _)
    ·rfl
  |_=>exact h
theorem qdv (p:qo){n m:Nat}(h:n≤m):XLe (yh p n) (yh p m):=by
 induction h with
 |refl=>exact fun _ _ _ h=>h
 |step _ ih=>exact fun c st r hr=>qxp p _ c st r (ih c st r hr)
open Classical in
noncomputable def X (p:qo):XC:=fun c st=>if h:∃r n,yh p n c st=some r then some (Classical.choose h)else none
theorem qar {p:qo}{c:qe}{st:qd}{r:qj×qd}:X p c st=some r↔∃n,yh p n c st=some r:=by
 unfold X
 constructor
 ·intro h
  split at h
  ·rename_i hh
   cases h
   exact Classical.choose_spec hh
  ·cases h
 ·rintro ⟨n,hn⟩
  have hh:∃r n,yh p n c st=some r:=⟨r,n,hn⟩
  rw[dif_pos hh]
  obtain⟨m,hm⟩:=Classical.choose_spec hh
  have h1:=qdv p (Nat.le_max_left n m) _ _ _ hn
  have h2:=qdv p (Nat.le_max_right n m) _ _ _ hm
  rw[h1]at h2
  exact h2.symm
theorem qjy {p:qo}(n:Nat):XLe (yh p n) (X p):=fun _ _ _ h=>qar.2 ⟨n,h⟩
section
variable {p:qo}
theorem q3i {af:qk}{args:List qa}{hp:ze}{r:qa×Bool×ze}(hr:qc4 (X p) af args hp=some r):∃n,qc4 (yh p n) af args hp=some r:=by
 have hr0:=hr
 unfold qc4 at hr
 cases hb:Nat.ble args.length af.ntmps with
 |false=>simp[hb]at hr
 |true=>
  simp only[hb,cT]at hr
  have key:∀ {r'},X p af.body ⟨qbp 0 args,hp⟩=some r'→∃n,qc4 (yh p n) af args hp=some r:=by
   intro r' h
   obtain⟨n,hn⟩:=qar.1 h
   refine⟨n,?_⟩
   unfold qc4
   rw[hb,hn]
   rw[h]at hr
   exact hr
  split at hr
  ·rename_i st hst;exact key hst
  ·rename_i st hst;exact key hst
  ·cases hr
theorem qqu {k:Nat}{args:List qa}{hp:ze}{r:qa×Bool×ze}(hr:ye p (X p) k args hp=some r):∃n,ye p (yh p n) k args hp=some r:=by
 unfold ye at *
 cases h:p.fns k with
 |none=>rw[h]at hr;exact⟨0,hr⟩
 |some f=>rw[h]at hr;exact q3i hr
theorem qiy {k:Nat}{args:List qa}{r:qa×Bool}(hr:zb p (X p) k args=some r):∃n,zb p (yh p n) k args=some r:=by
 unfold zb at *
 cases h:p.prims k with
 |some f=>rw[h]at hr;exact⟨0,hr⟩
 |none=>
  rw[h]at hr
  simp only[]at hr ⊢
  split at hr
  ·rename_i v o hh hc
   obtain⟨n,hn⟩:=qqu hc
   exact⟨n,by rw[hn];exact hr⟩
  ·cases hr
theorem q6g {b:Nat}{args:List qa}{hp:ze}{r:qa×ze}(hr:qbn (X p) b args hp=some r):∃n,qbn (yh p n) b args hp=some r:=by
 unfold qbn at hr
 split at hr
 ·rename_i l hl
  split at hr
  ·rename_i e hpn hse
   split at hr
   ·rename_i st hst
    split at hr
    ·rename_i l1 hl1
     cases hp1:l1.pending.isNone with
     |false=>simp[hp1]at hr
     |true=>
      simp only[hp1,cT]at hr
      split at hr
      ·rename_i x st' hst'
       obtain⟨n,hn⟩:=qar.1 hst
       obtain⟨m,hm⟩:=qar.1 hst'
       refine⟨max n m,?_⟩
       have h1:=qdv p (Nat.le_max_left n m) _ _ _ hn
       have h2:=qdv p (Nat.le_max_right n m) _ _ _ hm
       simp only[qbn,hl,hpn,hse,h1,hl1,hp1,cT,h2]
       exact hr
      ·cases hr
    ·cases hr
   ·cases hr
  ·cases hr
 ·cases hr
theorem q4k {h0:Nat}{e:Env}{hp:ze}{md:q9}{x:qf}{l:List qf}{r:qn}(hr:qat p (X p) h0 e hp md x l=some r):∃n,qat p (yh p n) h0 e hp md x l=some r:=by
 unfold qat at hr
 split at hr
 ·rename_i k first captured vs e1 e2
  cases md with
  |iso=>
   simp only[]at hr
   cases hb:yb 0 (first++vs++captured)with
   |false=>rw[hb]at hr;cases hr
   |true=>
    rw[hb]at hr
    simp only[cT]at hr
    split at hr
    ·rename_i v o hc
     obtain⟨n,hn⟩:=qiy hc
     refine⟨n,?_⟩
     simp only[qat,e1,e2,hn]
     rw[hb]
     exact hr
    ·cases hr
  |red=>
   simp only[]at hr
   split at hr
   ·rename_i us hf
    cases hb:yb 0 us with
    |false=>rw[hb]at hr;cases hr
    |true=>
     rw[hb]at hr
     simp only[cT]at hr
     split at hr
     ·rename_i v o hc
      obtain⟨n,hn⟩:=qiy hc
      refine⟨n,?_⟩
      simp only[qat,e1,e2,hf,hn]
      rw[hb]
      exact hr
     ·cases hr
   ·cases hr
  |frz _=>
   simp only[]at hr
   cases he:(first++vs++captured).isEmpty with
   |true=>exact⟨0,by simp only[qat,e1,e2,he];rw[he]at hr;exact hr⟩
   |false=>
    rw[he]at hr
    simp only[cF]at hr
    cases hb:yb 0 (first++vs++captured)with
    |false=>rw[hb]at hr;cases hr
    |true=>
     rw[hb]at hr
     simp only[cT]at hr
     split at hr
     ·rename_i v o hc
      obtain⟨n,hn⟩:=qiy hc
      refine⟨n,?_⟩
      simp only[qat,e1,e2,hn]
      rw[he,hb]
      exact hr
     ·cases hr
  |shr=>
   simp only[]at hr
   split at hr
   ·rename_i v o hh hc
    obtain⟨n,hn⟩:=qqu hc
    refine⟨n,?_⟩
    simp only[qat,e1,e2,hn]
    exact hr
   ·cases hr
 ·rename_i b vs e1 e2
  cases md with
  |shr=>
   simp only[]at hr
   split at hr
   ·rename_i v hh hc
    obtain⟨n,hn⟩:=q6g hc
    refine⟨n,?_⟩
    simp only[qat,e1,e2,hn]
    exact hr
   ·cases hr
  |_=>simp at hr
 ·cases hr
theorem q77 {h0:Nat}{al:Option (List Nat)}{e:Env}{hp:ze}{op:qt}{r:qn}(hr:j8 p (X p) h0 al e hp op=some r):∃n,j8 p (yh p n) h0 al e hp op=some r:=by
 cases op with
 |call md x l=>exact q4k hr
 |append rk sz b x y=>cases rk<;>exact⟨0,hr⟩
 |mkslice rk sz b z n c=>cases rk<;>exact⟨0,hr⟩
 |_=>exact⟨0,hr⟩
theorem q38 {h0:Nat}{o:qp}{st st':qd}(hr:qas p (X p) h0 o st=some st'):∃n,qas p (yh p n) h0 o st=some st':=by
 unfold qas at *
 cases hg:qc1 st.env o.guard with
 |none=>simp[hg]at hr
 |some b=>
  rw[hg]at hr
  cases b with
  |false=>exact⟨0,hr⟩
  |true=>
   simp only[]at hr ⊢
   split at hr
   ·rename_i r hs
    obtain⟨n,hn⟩:=q77 hs
    exact⟨n,by rw[hn];exact hr⟩
   ·cases hr
theorem q3k {h0:Nat}:∀ {l:List qp} {st st':qd},qb4 p (X p) h0 l st=some st'→∃n,qb4 p (yh p n) h0 l st=some st'
 | [],_,_,hr=>⟨0,hr⟩
 |o::l,st,st',hr=>by
  simp only[qb4]at hr
  split at hr
  ·rename_i s1 h1
   obtain⟨n,hn⟩:=q38 h1
   obtain⟨m,hm⟩:=q3k hr
   refine⟨max n m,?_⟩
   simp only[qb4]
   rw[qq5 (qdv p (Nat.le_max_left n m)) hn]
   exact qrj (qdv p (Nat.le_max_right n m)) hm
  ·cases hr
theorem q6b {na:Nat}{l:List qp}{k:Option (List Nat)}{st:qd}{r:qj×qd}(hr:qcm p (X p) na l k st=some r):∃n,qcm p (yh p n) na l k st=some r:=by
 unfold qcm at hr
 split at hr
 ·rename_i s1 h1
  obtain⟨n,hn⟩:=q3k h1
  exact⟨n,by unfold qcm;rw[hn];exact hr⟩
 ·cases hr
theorem q8r {x:qf}{ps:List Nat}{a b:qe}{st:qd}{r:qj×qd}(hr:qdd p (X p) x ps a b st=some r):∃n,qdd p (yh p n) x ps a b st=some r:=by
 unfold qdd at hr
 cases hn:(kz a&&kz b)with
 |false=>simp[hn]at hr
 |true=>
  simp only[hn,cT]at hr
  split at hr
  ·rename_i k first captured hev
   split at hr
   ·rename_i v o hh hc
    obtain⟨n,hn'⟩:=qqu hc
    refine⟨n,?_⟩
    unfold qdd
    rw[hn,hev]
    simp only[cT]
    rw[hn']
    exact hr
   ·cases hr
  ·cases hr
theorem qii {α:Type}{x y:Option α}(h1:∀r,x=some r→y=some r)(h2:∀r,y=some r→x=some r):x=y:=by
 cases x with
 |none=>
  cases y with
  |none=>rfl
  |some r=>exact(h2 r rfl)
 |some r=>exact(h1 r rfl).symm
theorem jo7 {st:qd}:X p .skip st=some (.normal,st):=qar.2 ⟨1,rfl⟩
theorem joy {id:Nat}{st:qd}:X p (.exit id) st=some (.exit id,st):=qar.2 ⟨1,rfl⟩
theorem jtm {st:qd}:X p .ret st=some (.ret,st):=qar.2 ⟨1,rfl⟩
theorem jej {na:Nat}{l:List qp}{k:Option (List Nat)}{st:qd}:X p (.region na l k) st=qcm p (X p) na l k st:=by
 refine qii (fun r h=>?_) (fun r h=>?_)
 ·obtain⟨n,hn⟩:=qar.1 h
  cases n with
  |zero=>simp[yh]at hn
  |succ n=>simp only[yh]at hn;exact qrk (qjy n) hn
 ·obtain⟨n,hn⟩:=q6b h
  exact qar.2 ⟨n+1,by simp only[yh];exact hn⟩
theorem qz2 {x:qf}{ps:List Nat}{a b:qe}{st:qd}:X p (.rangeFunc x ps a b) st=qdd p (X p) x ps a b st:=by
 refine qii (fun r h=>?_) (fun r h=>?_)
 ·obtain⟨n,hn⟩:=qar.1 h
  cases n with
  |zero=>simp[yh]at hn
  |succ n=>simp only[yh]at hn;exact qu0 (qjy n) hn
 ·obtain⟨n,hn⟩:=q8r h
  exact qar.2 ⟨n+1,by simp only[yh];exact hn⟩
theorem jr8 {a b:qe}{st:qd}:X p (.seq a b) st=match X p a st with
  |some (.normal,st')=>X p b st'
  |r=>r:=by
 refine qii (fun r h=>?_) (fun r h=>?_)
 ·obtain⟨n,hn⟩:=qar.1 h
  cases n with
  |zero=>simp[yh]at hn
  |succ n=>
   rw[yh]at hn
   split at hn
   ·rename_i st1 h1;rw[qjy n _ _ _ h1];exact qjy n _ _ _ hn
   ·rename_i hne
    rw[qjy n _ _ _ hn]
    split
    ·rename_i st1 h1;cases h1;exact absurd hn (hne _)
    ·rfl
 ·split at h
  ·rename_i st1 h1
   obtain⟨n,hn⟩:=qar.1 h1
   obtain⟨m,hm⟩:=qar.1 h
   refine qar.2 ⟨max n m+1,?_⟩
   rw[yh,qdv p (Nat.le_max_left n m) _ _ _ hn]
   exact qdv p (Nat.le_max_right n m) _ _ _ hm
  ·rename_i hne
   obtain⟨n,hn⟩:=qar.1 h
   refine qar.2 ⟨n+1,?_⟩
   rw[yh,hn]
   split
   ·rename_i st1 h1;cases h1;exact absurd h (hne _)
   ·rfl
theorem jow {c:qf}{a b:qe}{st:qd}:X p (.cond c a b) st=match zf st.env c with
  |some (.bool t)=>bif t then X p a st else X p b st
  |_=>none:=by
 refine qii (fun r h=>?_) (fun r h=>?_)
 ·obtain⟨n,hn⟩:=qar.1 h
  cases n with
  |zero=>simp[yh]at hn
  |succ n=>
   rw[yh]at hn
   split at hn
   ·rename_i t ht
    rw[ht]
    cases t
    ·simp only[cF]at hn ⊢;exact qjy n _ _ _ hn
    ·simp only[cT]at hn ⊢;exact qjy n _ _ _ hn
   ·cases hn
 ·split at h
  ·rename_i t ht
   cases t
   ·simp only[cF]at h
    obtain⟨n,hn⟩:=qar.1 h
    exact qar.2 ⟨n+1,by rw[yh,ht];exact hn⟩
   ·simp only[cT]at h
    obtain⟨n,hn⟩:=qar.1 h
    exact qar.2 ⟨n+1,by rw[yh,ht];exact hn⟩
  ·cases h
theorem jj7 {id:Nat}{b:qe}{st:qd}:X p (.block id b) st=match X p b st with
  |some (.exit id',st')=>bif Nat.beq id' id then some (.normal,st')else some (.exit id',st')
  |r=>r:=by
 refine qii (fun r h=>?_) (fun r h=>?_)
 ·obtain⟨n,hn⟩:=qar.1 h
  cases n with
  |zero=>simp[yh]at hn
  |succ n=>
   rw[yh]at hn
   split at hn
   ·rename_i id' st1 h1;rw[qjy n _ _ _ h1];exact hn
   ·rename_i hne
    rw[qjy n _ _ _ hn]
    split
    ·rename_i id' st1 h1;cases h1;exact absurd hn (hne _ _)
    ·rfl
 ·split at h
  ·rename_i id' st1 h1
   obtain⟨n,hn⟩:=qar.1 h1
   exact qar.2 ⟨n+1,by rw[yh,hn];exact h⟩
  ·rename_i hne
   obtain⟨n,hn⟩:=qar.1 h
   refine qar.2 ⟨n+1,?_⟩
   rw[yh,hn]
   split
   ·rename_i id' st1 h1;cases h1;exact absurd h (hne _ _)
   ·rfl
theorem jo0 {b:qe}{st:qd}:X p (.loop b) st=match X p b st with
  |some (.normal,st')=>X p (.loop b) (gc st.heap.length st')
  |r=>r:=by
 refine qii (fun r h=>?_) (fun r h=>?_)
 ·obtain⟨n,hn⟩:=qar.1 h
  cases n with
  |zero=>simp[yh]at hn
  |succ n=>
   rw[yh]at hn
   split at hn
   ·rename_i st1 h1;rw[qjy n _ _ _ h1];exact qjy n _ _ _ hn
   ·rename_i hne
    rw[qjy n _ _ _ hn]
    split
    ·rename_i st1 h1;cases h1;exact absurd hn (hne _)
    ·rfl
 ·split at h
  ·rename_i st1 h1
   obtain⟨n,hn⟩:=qar.1 h1
   obtain⟨m,hm⟩:=qar.1 h
   refine qar.2 ⟨max n m+1,?_⟩
   rw[yh,qdv p (Nat.le_max_left n m) _ _ _ hn]
   exact qdv p (Nat.le_max_right n m) _ _ _ hm
  ·rename_i hne
   obtain⟨n,hn⟩:=qar.1 h
   refine qar.2 ⟨n+1,?_⟩
   rw[yh,hn]
   split
   ·rename_i st1 h1;cases h1;exact absurd h (hne _)
   ·rfl
theorem jpp {sz:Nat}{st:qd}:X p (.grow sz) st=match look 0 st.env,look 1 st.env with
   |some (.list true _ _,_),some (.int .i64 (.ofNat m),_)=>bif Nat.blt 0 m&&Nat.ble m 1073741824 then some (.normal,{ st with env:=[(0,.list false sz [],true)] })else none
   |_,_=>none:=by
 refine qii (fun r h=>?_) (fun r h=>?_)
 ·obtain⟨n,hn⟩:=qar.1 h
  cases n with
  |zero=>simp[yh]at hn
  |succ n=>simp only[yh]at hn;exact hn
 ·exact qar.2 ⟨1,by simp only[yh];exact h⟩
theorem qvh {P:Program}(hp':qu P p){k:Nat}{args:List qa}{v:qa}{ow:Bool}(h:zb p (X p) k args=some (v,ow))(hb:yb 0 args=true):qa6 P k args v ow:=by
 obtain⟨n,hn⟩:=qiy h
 exact q7x hp' hn hb
end
def qdk:qa→Bool
 | .bool _=>true
 | .int _ _=>true
 | .str _=>true
 |_=>false
def q3w (s:Nat)(st:qd):Option qd:=
 match st.heap,look s st.env with
 | [],some (.list false sz xs,true)=>bif Nat.beq sz 1&&xs.all qdk&&st.env.all (fun y=>Nat.beq y.1 s||qdk y.2.1)then
   some ⟨(s,.ms 0 0 xs.length,false)::st.env,[.cells (cellsOf xs)]⟩else none
 |_,_=>none
def qsa (s sz:Nat)(st:qd):Option qd:=
 match st.heap,look s st.env with
 | [.cells cs],some (.ms 0 0 len,_)=>bif Nat.beq (len*sz) cs.length&&Nat.blt 0 sz&&cs.all (fun c=>below 0 c.1&&!c.1.isAgg)&&st.env.all (fun y=>Nat.beq y.1 s||below 0 y.2.1)then
   some ⟨(s,.list false sz (qcv sz len (cs.map (·.1))),false)::st.env,[]⟩else none
 |_,_=>none
inductive ja where
 |code (c:qe)
 |seq (a b:ja)
 |cond (c:qf) (a b:ja)
 |block (id:Nat) (b:ja)
 |loop (b:ja)
 |thaw (s:Nat) (c:ja)
 |shut (s sz:Nat) (c:ja)
def ja.erase:ja→qe
 | .code c=>c
 | .seq a b=>.seq a.erase b.erase
 | .cond c a b=>.cond c a.erase b.erase
 | .block id b=>.block id b.erase
 | .loop b=>.loop b.erase
 | .thaw _ c=>c.erase
 | .shut _ _ c=>c.erase
def qxu:qe→Bool
 | .skip=>true
 |_=>false
inductive qw (p:qo):ja→qd→qj→qd→Prop where
 |code {c st x st'} (h:X p c st=some (x,st')):qw p (.code c) st x st'
 |seqN {a b st st1 x st'} (hs:qxu b.erase=false) (h:qw p a st .normal st1) (k:qw p b st1 x st'):qw p (.seq a b) st x st'
 |seqX {a b st x st'} (hs:qxu b.erase=false) (h:qw p a st x st') (hx:x≠.normal):qw p (.seq a b) st x st'
 |condT {c a b st x st'} (hc:zf st.env c=some (.bool true)) (h:qw p a st x st'):qw p (.cond c a b) st x st'
 |condF {c a b st x st'} (hc:zf st.env c=some (.bool false)) (h:qw p b st x st'):qw p (.cond c a b) st x st'
 |blockE {id b st st'} (h:qw p b st (.exit id) st'):qw p (.block id b) st .normal st'
 |qlk {id b st x st'} (h:qw p b st x st') (hx:x≠.exit id):qw p (.block id b) st x st'
 |loopN {b st st1 x st'} (h:qw p b st .normal st1) (k:qw p (.loop b) (gc st.heap.length st1) x st'):qw p (.loop b) st x st'
 |qnf {b st x st'} (h:qw p b st x st') (hx:x≠.normal):qw p (.loop b) st x st'
 |thaw {s c st st1 x st'} (ht:q3w s st=some st1) (h:qw p c st1 x st'):qw p (.thaw s c) st x st'
 |shut {s sz c st st1 x st'} (ht:qsa s sz st=some st1) (h:qw p c st1 x st'):qw p (.shut s sz c) st x st'
theorem qvg {s:Nat}{x:qa×Bool}:∀ {e:Env},look s e=some x→(s,x)∈e
 | [],h=>by simp[look]at h
 |(t,y)::e,h=>by
  simp only[look]at h
  cases hb:Nat.beq t s with
  |true=>
   rw[hb]at h
   simp only[cT,Option.some.injEq]at h
   have:=Nat.eq_of_beq_eq_true hb
   subst this;subst h
   exact List.mem_cons_self ..
  |false=>
   rw[hb]at h
   exact List.mem_cons_of_mem _ (qvg h)
theorem q0u {C C':Ctx}{x:qa}{v:Value}(hp:qdk x=true)(h:Rep C x v):Rep C' x v:=by
 cases x<;>simp only[qdk,Bool.false_eq_true]at hp<;>cases h<;>constructor
theorem q9u {x:qa}(hp:qdk x=true):x.flat=[x]:=by
 cases x<;>simp only[qdk,Bool.false_eq_true]at hp<;>rfl
theorem jde {C:Ctx}{ω:Nat→Option Loc}{w:World}{B:Nat}{ℓ:Loc}{x:qa}{v:Value}(hp:qdk x=true):OwnV C ω w B ℓ x v:=by
 cases x<;>simp only[qdk,Bool.false_eq_true]at hp<;>trivial
theorem ji9 {P:Program}{K:Nat→Nat→Option Value}{C:Ctx}{ω:Nat→Option Loc}{w0 w:World}{env:Env}{tmps:Array Value}{s:Nat}{xs:List qa}
  (hK:∀r o u,K r o=some u→w0.cell? ⟨r,o,none⟩=some u) (m:MInv P C ω w0 (.iso K) [] w) (e:EnvRel C ω w w0.heap.size env tmps)
  (hs:look s env=some (.list false 1 xs,true)) (hx:xs.all qdk=true) (hv:(env.all fun y=>Nat.beq y.1 s||qdk y.2.1)=true):
  ∃C',C'.D=C.D∧(Ctx.iso K).le C'∧MInv P C' ω w0 (.iso K) [.cells (cellsOf xs)] w∧EnvRel C' ω w w0.heap.size ((s,.ms 0 0 xs.length,false)::env) tmps:=by
 obtain⟨v,hv1,hv2,hv3⟩:=e s _ hs
 have ho:=hv3 rfl
 have hpl:∀x∈xs,qdk x=true:=fun x hx'=>List.all_eq_true.1 hx x hx'
 have hKlt:∀r o u,K r o=some u→r<w0.heap.size:=by
  intro r o u h
  have h1:=hK r o u h
  unfold World.cell? at h1
  split at h1
  ·rename_i c _ _ hc;exact(Array.getElem?_eq_some_iff.1 hc).1
  ·cases h1
 cases hv2 with
 |lemp sz a hsp=>
  simp only[OwnV]at ho
  exact absurd ho.2.2.2.1 hsp
 |list sz _ r o cap hl hr=>
  simp only[OwnV]at ho
  obtain⟨o1,o2,o3,_,o5,⟨cells,elem,o6,o7⟩,o8⟩:=ho
  subst o5
  have hW:C.W=fun _=>False:=m.grown.w
  have hB:w0.heap.size≤r:=o2.resolve_right (by rw[hW];exact fun h=>h)
  have hlt:r<w.heap.size:=(Array.getElem?_eq_some_iff.1 o6).1
  let C':Ctx:={ C with K:=fun q o=>if q=r then none else C.K q o,β:=fun b=>if b=0 then some r else none }
  have hβ:∀ {b q},C'.β b=some q→b=0∧q=r:=by
   intro b q hb
   simp only[C']at hb
   split at hb
   ·exact⟨by assumption,by cases hb;rfl⟩
   ·cases hb
  have hK':∀ {q o u},C'.K q o=some u→q≠r∧C.K q o=some u:=by
   intro q o u h
   simp only[C']at h
   split at h
   ·cases h
   ·exact⟨by assumption,h⟩
  have hle:(Ctx.iso K).le C':=by
   refine⟨fun q o u h=>?_,(fun b q h=>by cases h),m.grown.w,m.grown.d⟩
   have:=hKlt q o u h
   have hne:q≠r:=by omega
   simp only[C',if_neg hne]
   exact m.grown.k q o u h
  refine⟨C',rfl,hle,?_,?_⟩
  ·exact {
    base:=m.base
    know:=fun q o u h=>m.know q o u (hK' h).2
    kone:=fun q o u h=>m.kone q o u (hK' h).2
    apart:=fun b q o h=>by obtain⟨_,rfl⟩:=hβ h;simp[C']
    inj:=fun b b' q h h'=>by rw[(hβ h).1,(hβ h').1]
    lt:=fun b q h=>by obtain⟨rfl,rfl⟩:=hβ h;exact⟨hlt,by simp⟩
    size:=m.size
    frame:=m.frame
    dfr:=m.dfr
    os:=m.os
    output:=m.output
    fresh:=fun b q h=>by obtain⟨_,rfl⟩:=hβ h;exact .inr (.inl hB)
    grown:=hle
    old:=fun q o hq hw=>by
     have hne:q≠r:=by omega
     simp only[C',if_neg hne]
     exact m.old q o hq hw
    box:=fun b x q hx' h=>by
     obtain⟨rfl,rfl⟩:=hβ h
     simp only[List.getElem?_cons_zero,Option.some.injEq]at hx'
     subst hx'
     have hlen:(cellsOf xs).length=xs.length:=by simp[cellsOf]
     refine⟨cells,elem,o6,by omega,?_⟩
     intro j c hc
     simp only[cellsOf,List.getElem?_map,Option.map_eq_some_iff]at hc
     obtain⟨y,hy,rfl⟩:=hc
     have hyp:=hpl y (List.mem_of_getElem? hy)
     have hcell:=RepRow.get hr hy
     rw[q9u hyp]at hcell
     have h1:=RepC.get hcell (i:=0) (x:=y) rfl
     obtain⟨u,k1,k2⟩:=h1
     have k1':C.K q j=some u:=by simpa using k1
     have k3:=m.know q j u k1'
     unfold World.cell? at k3
     rw[o6]at k3
     simp only[Option.isSome_none,Bool.false_eq_true,if_false]at k3
     exact⟨u,k3,m.kone q j u k1',q0u hyp k2,fun h=>by simp at h⟩ }
  ·intro t x ht
   by_cases hts:t=s
   ·subst hts
    rw[qcu]at ht
    cases ht
    exact⟨_,hv1,.ms 0 0 xs.length r cap (by simp[C']) hl,fun h=>by simp at h⟩
   ·rw[qd5 hts]at ht
    obtain⟨u,k1,k2,_⟩:=e t x ht
    have hmem:=List.all_eq_true.1 hv _ (qvg ht)
    have hpx:qdk x.1=true:=by
     simp only[Bool.or_eq_true]at hmem
     rcases hmem with h|h
     ·exact absurd (Nat.eq_of_beq_eq_true h) hts
     ·exact h
    exact⟨u,k1,q0u hpx k2,fun _=>jde hpx⟩
theorem je6 {P:Program}{p:qo}(hp:qu P p):qy2 P (X p):=by
 intro ρ nt c ca st st' x hc hn hx
 obtain⟨n,hx'⟩:=qar.1 hx
 exact(qtt hp n).1 ρ nt c ca st st' x hc hn hx'
def StI (P:Program)(w0:World)(K:Nat→Nat→Option Value)(nt:Nat)(st:qd)(a:Act)(w:World):Prop:=
 a.tmps.size=nt∧∃C' ω',Marks C' w0.heap.size a.defers∧MInv P C' ω' w0 (.iso K) st.heap w∧EnvRel C' ω' w w0.heap.size st.env a.tmps
def qt5 (P:Program)(w0:World)(K:Nat→Nat→Option Value)(nt:Nat)(x:qj)(st':qd):Exit→Act→World→Prop:=fun e a' w'=>e=ql9 x∧StI P w0 K nt st' a' w'
theorem StOk.toI {P:Program}{w0:World}{K:Nat→Nat→Option Value}{C:Ctx}{nt:Nat}{st:qd}{a:Act}{w:World}(h:StOk P w0 (.iso K) C nt st a w):StI P w0 K nt st a w:=by
 obtain⟨h1,C',ω',_,h2,h3,h4⟩:=h
 exact⟨h1,C',ω',h2,h3,h4⟩
theorem jcw {P:Program}{K:Nat→Nat→Option Value}{w0 w:World}{nt s:Nat}{st st':qd}{a:Act}(hK:∀r o u,K r o=some u→w0.cell? ⟨r,o,none⟩=some u)(ht:q3w s st=some st')(h:StI P w0 K nt st a w):StI P w0 K nt st' a w:=by
 unfold q3w at ht
 split at ht
 ·rename_i sz xs hh hs
  cases hb:(Nat.beq sz 1&&xs.all qdk&&st.env.all (fun y=>Nat.beq y.1 s||qdk y.2.1))with
  |false=>rw[hb]at ht;cases ht
  |true=>
   rw[hb]at ht
   simp only[cT,Option.some.injEq]at ht
   subst ht
   simp only[Bool.and_eq_true]at hb
   obtain⟨⟨b1,b2⟩,b3⟩:=hb
   have:=Nat.eq_of_beq_eq_true b1
   subst this
   obtain⟨hsz,C',ω',⟨rs,hmk1,hmk2,hmk3⟩,m,e⟩:=h
   rw[hh]at m
   obtain⟨C2,q1,q2,q3,q4⟩:=ji9 hK m e hs b2 b3
   exact⟨hsz,C2,ω',⟨rs,hmk1,hmk2,fun r hr=>by rw[q1];exact hmk3 r hr⟩,q3,q4⟩
 ·cases ht
theorem OwnV.closeUp {C C':Ctx}{ω:Nat→Option Loc}{w:World}{B:Nat}{ℓ:Loc}{x:qa}{v:Value}(h:OwnV C ω w B ℓ x v)(hβ:∀ {r} b,C'.β b≠some r)(hW:C'.W=C.W)(hK:∀r,(∀b,C.β b≠some r)→∀o,C.K r o=none→C'.K r o=none):OwnV C' ω w B ℓ x v:=by
 unfold OwnV at *
 split at h
 ·obtain⟨g1,g2,g3,g4,g5,g6,g7⟩:=h
  exact⟨g1,by rw[hW];exact g2,fun b=>hβ b,g4,g5,g6,fun o ho=>hK _ g3 o (g7 o ho)⟩
 ·trivial
theorem jc5 {P:Program}{K:Nat→Nat→Option Value}{w0 w:World}{nt s sz:Nat}{st st':qd}{a:Act}(hK:∀r o u,K r o=some u→w0.cell? ⟨r,o,none⟩=some u)(ht:qsa s sz st=some st')(h:StI P w0 K nt st a w):StI P w0 K nt st' a w:=by
 unfold qsa at ht
 split at ht
 ·rename_i cs len ow hh hs
  cases hb:(Nat.beq (len*sz) cs.length&&Nat.blt 0 sz&&cs.all (fun c=>below 0 c.1&&!c.1.isAgg)&&st.env.all (fun y=>Nat.beq y.1 s||below 0 y.2.1))with
  |false=>rw[hb]at ht;cases ht
  |true=>
   rw[hb]at ht
   simp only[cT,Option.some.injEq]at ht
   subst ht
   simp only[Bool.and_eq_true]at hb
   obtain⟨⟨⟨b1,b0⟩,b2⟩,b3⟩:=hb
   have b1:=Nat.eq_of_beq_eq_true b1
   have b0:0<sz:=by simpa using b0
   obtain⟨hsz,C,ω,⟨rs,hmk1,hmk2,hmk3⟩,m,e⟩:=h
   rw[hh]at m
   obtain⟨v,hv1,hv2,_⟩:=e s _ hs
   cases hv2 with
   |ms b o ln r cap hβ hl=>
    obtain⟨vs,elem,k1,k2,k3⟩:=m.box 0 (.cells cs) r rfl hβ
    have hlt:r<w.heap.size:=(m.lt 0 r hβ).1
    have hB:w0.heap.size≤r:=by
     rcases m.fresh 0 r hβ with h|h|h
     ·cases h
     ·exact h
     ·exact h.elim
    have hKlt:∀r o u,K r o=some u→r<w0.heap.size:=by
     intro r o u h
     have h1:=hK r o u h
     unfold World.cell? at h1
     split at h1
     ·rename_i c _ _ hc;exact(Array.getElem?_eq_some_iff.1 hc).1
     ·cases h1
    let C':Ctx:={ C with K:=fun q o=>if q=r then(if o<cs.length then vs[o]? else none)else C.K q o,β:=fun _=>none }
    have hKr:∀o,C.K r o=none:=fun o=>m.apart 0 r o hβ
    have hle:∀q o u,C.K q o=some u→C'.K q o=some u:=by
     intro q o u h
     have hne:q≠r:=fun hq=>by subst hq;rw[hKr]at h;cases h
     simp only[C',if_neg hne];exact h
    have hC'r:∀ {o u},C'.K r o=some u→o<cs.length∧vs[o]?=some u:=by
     intro o u h
     simp only[C',if_true]at h
     split at h
     ·exact⟨by assumption,h⟩
     ·cases h
    have hcell:∀j x,cs[j]?=some x→∃u,C'.K r j=some u∧u.oneCell'=true∧Rep C x.1 u:=by
     intro j x hx
     obtain⟨u,q1,q2,q3,_⟩:=k3 j x hx
     have hj:j<cs.length:=(List.getElem?_eq_some_iff.1 hx).1
     exact⟨u,by simp only[C',if_true,if_pos hj];exact q1,q2,q3⟩
    have hpl:∀x∈cs,below 0 x.1=true∧x.1.isAgg=false:=fun x hx=>by simpa using List.all_eq_true.1 b2 x hx
    refine⟨hsz,C',ω,⟨rs,hmk1,hmk2,fun r hr=>hmk3 r hr⟩,?_,?_⟩
    ·exact {
      base:=m.base
      know:=fun q o u h=>by
       by_cases hq:q=r
       ·subst hq
        obtain⟨_,h2⟩:=hC'r h
        unfold World.cell?
        rw[k1];simpa using h2
       ·simp only[C',if_neg hq]at h;exact m.know q o u h
      kone:=fun q o u h=>by
       by_cases hq:q=r
       ·subst hq
        obtain⟨h1,h2⟩:=hC'r h
        obtain⟨x,hx⟩:∃x,cs[o]?=some x:=⟨cs[o],by simp[h1]⟩
        obtain⟨u',q1,q2,_⟩:=hcell o x hx
        rw[h]at q1;cases q1;exact q2
       ·simp only[C',if_neg hq]at h;exact m.kone q o u h
      apart:=fun b q o h=>by cases h
      inj:=fun b b' q h=>by cases h
      lt:=fun b q h=>by cases h
      size:=m.size
      frame:=m.frame
      dfr:=m.dfr
      os:=m.os
      output:=m.output
      fresh:=fun b q h=>by cases h
      grown:=⟨fun q o u h=>hle q o u (m.grown.k q o u h),(fun b q h=>by cases h),m.grown.w,m.grown.d⟩
      old:=fun q o hq hw=>by
       have hne:q≠r:=by omega
       simp only[C',if_neg hne]
       exact m.old q o hq hw
      box:=fun b x q _ h=>by cases h }
    ·intro t x ht
     by_cases hts:t=s
     ·subst hts
      rw[qcu]at ht
      cases ht
      refine⟨_,hv1,?_,fun h=>by simp at h⟩
      have hrow:RepRow C' r sz (qcv sz len (cs.map (·.1))) 0:=by
       refine qqp b0 (by rw[List.length_map];exact b1.symm) (fun x hx=>?_) fun j x hx=>?_
       ·obtain⟨c,hc,rfl⟩:=List.mem_map.1 hx;exact(hpl c hc).2
       ·simp only[List.getElem?_map,Option.map_eq_some_iff]at hx
        obtain⟨c,hc,rfl⟩:=hx
        obtain⟨u,q1,_,q3⟩:=hcell j c hc
        exact⟨u,by simpa using q1,qm.shift 0 hle (fun b q hb=>by omega) q3 (hpl c (List.mem_of_getElem? hc)).1⟩
      have:=qm.list (C:=C') sz (qcv sz len (cs.map (·.1))) r 0 cap (by rw[qem];exact hl) hrow
      rw[qem]at this
      exact this
     ·rw[qd5 hts]at ht
      obtain⟨u,q1,q2,q3⟩:=e t x ht
      have hmem:=List.all_eq_true.1 b3 _ (qvg ht)
      have hpx:below 0 x.1=true:=by
       simp only[Bool.or_eq_true]at hmem
       rcases hmem with h|h
       ·exact absurd (Nat.eq_of_beq_eq_true h) hts
       ·exact h
      refine⟨u,q1,qm.shift 0 hle (fun b q hb=>by omega) q2 hpx,fun ho=>?_⟩
      exact(q3 ho).closeUp (fun b h=>by cases h) rfl fun q hq o ho'=>by
       have hne:q≠r:=fun hh=>hq 0 (by rw[hh];exact hβ)
       simp only[C',if_neg hne]
       exact ho'
 ·cases ht
theorem StI.gc {P:Program}{w0:World}{K:Nat→Nat→Option Value}{nt n:Nat}{st:qd}{a:Act}{w:World}(h:StI P w0 K nt st a w):StI P w0 K nt (Abs.gc n st) a w:=by
 obtain⟨h1,C',ω',h2,h3,h4⟩:=h
 unfold Abs.gc
 cases hb:Nat.ble st.heap.length n with
 |true=>exact⟨h1,C',ω',h2,h3,h4⟩
 |false=>
  simp only[cF]
  cases hb2:(qa7 n st.env&&yl n (st.heap.take n))with
  |false=>exact⟨h1,C',ω',h2,h3,h4⟩
  |true=>
   simp only[cT]
   simp only[Bool.and_eq_true]at hb2
   have hn:n≤st.heap.length:=by
    rcases Nat.lt_or_ge n st.heap.length with h|h
    ·omega
    ·rw[Nat.ble_eq_true_of_le h]at hb;cases hb
   exact⟨h1,C'.cut n,ω',⟨h2.choose,h2.choose_spec.1,h2.choose_spec.2.1,h2.choose_spec.2.2⟩,h3.gc hn hb2.2 (fun b r h=>by cases h),h4.cut hb2.1⟩
theorem qne {P:Program}{J:Act→World→Prop}{w0:World}{K:Nat→Nat→Option Value}{nt:Nat}{x:qj}{st':qd}{Q:Exit→Act→World→Prop}{e:Exit}{a:Act}{w:World}(h:qt5 P w0 K nt x st' e a w)(hn:x=.normal→StI P w0 K nt st' a w→J a w)(ho:x≠.normal→StI P w0 K nt st' a w→Q (ql9 x) a w):Exit.then J Q e a w:=by
 obtain⟨rfl,h⟩:=h
 cases x with
 |normal=>exact hn rfl h
 |exit id=>exact ho (by simp) h
 |ret=>exact ho (by simp) h
theorem q3p {P:Program}{nt:Nat}{c:Code}{x y:qe}(hc:qdx P nt c (.seq x y))(hs:qxu y=false):∃c1 c2,c=.seq c1 c2∧qdx P nt c1 x∧qdx P nt c2 y:=by
 obtain⟨hh,h⟩:=hc
 cases c with
 |seq c1 c2=>
  simp only[kj]at h
  split at h
  ·rename_i x1 x2 k1 k2
   cases h
   exact⟨c1,c2,rfl,⟨hh,k1⟩,⟨hh,k2⟩⟩
  ·cases h
 |scope b=>
  simp only[kj,Option.map_eq_some_iff,qe.seq.injEq]at h
  obtain⟨b',k1,rfl,rfl⟩:=h
  simp[qxu]at hs
 |region id ops draw=>
  simp only[kj]at h
  split at h
  ·cases h
  ·unfold qfx at h
   split at h
   ·split at h<;>cases h
   ·cases h
 |cond x c1 c2=>
  simp only[kj]at h
  split at h<;>cases h
 |rangeFunc f ps x1 x2=>
  simp only[kj]at h
  split at h
  ·split at h<;>cases h
  ·cases h
 |block id b=>simp[kj]at h
 |loop b=>simp[kj]at h
 |_=>simp[kj]at h
theorem q0w {P:Program}{nt:Nat}{c:Code}{v:qf}{x y:qe}(hc:qdx P nt c (.cond v x y)):∃u c1 c2,c=.cond u c1 c2∧zx u=some v∧qdx P nt c1 x∧qdx P nt c2 y:=by
 obtain⟨hh,h⟩:=hc
 cases c with
 |cond u c1 c2=>
  simp only[kj]at h
  split at h
  ·rename_i v' x1 x2 k0 k1 k2
   cases h
   exact⟨u,c1,c2,rfl,k0,⟨hh,k1⟩,⟨hh,k2⟩⟩
  ·cases h
 |region id ops draw=>
  simp only[kj]at h
  split at h
  ·cases h
  ·unfold qfx at h
   split at h
   ·split at h<;>cases h
   ·cases h
 |seq c1 c2=>
  simp only[kj]at h
  split at h<;>cases h
 |rangeFunc f ps x1 x2=>
  simp only[kj]at h
  split at h
  ·split at h<;>cases h
  ·cases h
 |scope b=>simp[kj]at h
 |block id b=>simp[kj]at h
 |loop b=>simp[kj]at h
 |_=>simp[kj]at h
theorem qx1 {P:Program}{nt id:Nat}{c:Code}{x:qe}(hc:qdx P nt c (.block id x)):∃c1,c=.block id c1∧qdx P nt c1 x:=by
 obtain⟨hh,h⟩:=hc
 cases c with
 |block id' b=>
  simp only[kj,Option.map_eq_some_iff,qe.block.injEq]at h
  obtain⟨b',k1,rfl,rfl⟩:=h
  exact⟨b,rfl,hh,k1⟩
 |region id ops draw=>
  simp only[kj]at h
  split at h
  ·cases h
  ·unfold qfx at h
   split at h
   ·split at h<;>cases h
   ·cases h
 |seq c1 c2=>
  simp only[kj]at h
  split at h<;>cases h
 |cond x c1 c2=>
  simp only[kj]at h
  split at h<;>cases h
 |rangeFunc f ps x1 x2=>
  simp only[kj]at h
  split at h
  ·split at h<;>cases h
  ·cases h
 |scope b=>simp[kj]at h
 |loop b=>simp[kj]at h
 |_=>simp[kj]at h
theorem jdr {P:Program}{nt:Nat}{c:Code}{x:qe}(hc:qdx P nt c (.loop x)):∃c1,c=.loop c1∧qdx P nt c1 x:=by
 obtain⟨hh,h⟩:=hc
 cases c with
 |loop b=>
  simp only[kj,Option.map_eq_some_iff,qe.loop.injEq]at h
  obtain⟨b',k1,rfl⟩:=h
  exact⟨b,rfl,hh,k1⟩
 |region id ops draw=>
  simp only[kj]at h
  split at h
  ·cases h
  ·unfold qfx at h
   split at h
   ·split at h<;>cases h
   ·cases h
 |seq c1 c2=>
  simp only[kj]at h
  split at h<;>cases h
 |cond x c1 c2=>
  simp only[kj]at h
  split at h<;>cases h
 |rangeFunc f ps x1 x2=>
  simp only[kj]at h
  split at h
  ·split at h<;>cases h
  ·cases h
 |scope b=>simp[kj]at h
 |block id b=>simp[kj]at h
 |_=>simp[kj]at h
theorem j3i {P:Program}{p:qo}(hp:qu P p){nt:Nat}{K:Nat→Nat→Option Value}{w0:World}(hK:∀r o u,K r o=some u→w0.cell? ⟨r,o,none⟩=some u){g:ja}{st st':qd}{x:qj}(h:qw p g st x st'):
  (∀c,qdx P nt c g.erase→∀(a:Act) (w:World),StI P w0 K nt st a w→c.wpIn (qbf none) 0 P (qt5 P w0 K nt x st') a w) ∧
  (∀b,g=.loop b→∀c,qdx P nt c b.erase→∀(a:Act) (w:World),StI P w0 K nt st a w→LoopWp none P c (qt5 P w0 K nt x st') a w):=by
 have ofLoop:∀ {b:ja} {st st':qd} {x:qj},(∀c,qdx P nt c b.erase→∀(a:Act) (w:World),StI P w0 K nt st a w→LoopWp none P c (qt5 P w0 K nt x st') a w) →
   (∀c,qdx P nt c (ja.loop b).erase→∀(a:Act) (w:World),StI P w0 K nt st a w→c.wpIn (qbf none) 0 P (qt5 P w0 K nt x st') a w) ∧
   (∀b',ja.loop b=.loop b'→∀c,qdx P nt c b'.erase→∀(a:Act) (w:World),StI P w0 K nt st a w→LoopWp none P c (qt5 P w0 K nt x st') a w):=by
  intro b st st' x h
  refine⟨fun c hc a w hst=>?_,fun b' hb=>by cases hb;exact h⟩
  obtain⟨c1,rfl,k1⟩:=jdr hc
  exact(h c1 k1 a w hst).wpIn
 induction h with
 |code hc=>
  refine⟨fun c hcp a w hst=>?_,fun b hb=>by cases hb⟩
  obtain⟨hsz,C',ω',hm,m,e⟩:=hst
  refine wpIn_mono (je6 hp none nt c _ _ _ _ hcp (fun h=>absurd rfl h) hc C' w0 (.iso K) a w ⟨hsz,C',ω',Ctx.le_refl _,hm,m,e⟩) ?_
  rintro e a' w' ⟨rfl,hq⟩
  exact⟨rfl,hq.toI⟩
 |seqN hs h k ih1 ih2=>
  refine⟨fun c hcp a w hst=>?_,fun b hb=>by cases hb⟩
  obtain⟨c1,c2,rfl,k1,k2⟩:=q3p hcp hs
  exact wpIn_seq (wpIn_mono (ih1.1 c1 k1 a w hst) fun e a' w' hq=>qne hq (fun _ h1=>ih2.1 c2 k2 a' w' h1) (fun hh=>absurd rfl hh))
 |seqX hs h hx ih1=>
  refine⟨fun c hcp a w hst=>?_,fun b hb=>by cases hb⟩
  obtain⟨c1,c2,rfl,k1,k2⟩:=q3p hcp hs
  exact wpIn_seq (wpIn_mono (ih1.1 c1 k1 a w hst) fun e a' w' hq=>qne hq (fun hh=>absurd hh hx) (fun _ h1=>⟨rfl,h1⟩))
 |condT hc h ih=>
  refine⟨fun c hcp a w hst=>?_,fun b hb=>by cases hb⟩
  obtain⟨u,c1,c2,rfl,k0,k1,k2⟩:=q0w hcp
  have hst':=hst
  obtain⟨_,_,_,_,_,e⟩:=hst
  exact wpIn_cond (t:=true) (z6 e.rep k0 hc).bool_inv (ih.1 c1 k1 a w hst')
 |condF hc h ih=>
  refine⟨fun c hcp a w hst=>?_,fun b hb=>by cases hb⟩
  obtain⟨u,c1,c2,rfl,k0,k1,k2⟩:=q0w hcp
  have hst':=hst
  obtain⟨_,_,_,_,_,e⟩:=hst
  exact wpIn_cond (t:=false) (z6 e.rep k0 hc).bool_inv (ih.1 c2 k2 a w hst')
 |blockE h ih=>
  refine⟨fun c hcp a w hst=>?_,fun b hb=>by cases hb⟩
  obtain⟨c1,rfl,k1⟩:=qx1 hcp
  refine wpIn_block (wpIn_mono (ih.1 c1 k1 a w hst) ?_)
  rintro e a' w' ⟨rfl,hst1⟩
  simp only[ql9,Exit.inBlock,if_true]
  exact⟨rfl,hst1⟩
 |qlk h hx ih=>
  refine⟨fun c hcp a w hst=>?_,fun b hb=>by cases hb⟩
  obtain⟨c1,rfl,k1⟩:=qx1 hcp
  refine wpIn_block (wpIn_mono (ih.1 c1 k1 a w hst) ?_)
  rename_i id _ _ x _
  rintro e a' w' ⟨rfl,hst1⟩
  cases x with
  |normal=>exact⟨rfl,hst1⟩
  |ret=>exact⟨rfl,hst1⟩
  |exit id'=>
   have hne:¬id'=id:=fun hh=>hx (by rw[hh])
   simp only[ql9,Exit.inBlock,hne,if_false]
   exact⟨rfl,hst1⟩
 |loopN h k ih1 ih2=>
  refine ofLoop fun c hc a w hst=>LoopWp.of_body (wpIn_mono (ih1.1 c hc a w hst) fun e a' w' hq=>qne hq (fun _ h1=>?_) (fun hh=>absurd rfl hh))
  exact ih2.2 _ rfl c hc a' w' h1.gc
 |qnf h hx ih1=>
  exact ofLoop fun c hc a w hst=>LoopWp.of_body (wpIn_mono (ih1.1 c hc a w hst) fun e a' w' hq=>qne hq (fun hh=>absurd hh hx) (fun _ h1=>⟨rfl,h1⟩))
 |thaw ht h ih=>exact⟨fun c hcp a w hst=>ih.1 c hcp a w (jcw hK ht hst),fun b hb=>by cases hb⟩
 |shut ht h ih=>exact⟨fun c hcp a w hst=>ih.1 c hcp a w (jc5 hK ht hst),fun b hb=>by cases hb⟩
theorem qq2 {P:Program}{p:qo}(hp:qu P p){k:Nat}{f:qk}{g:ja}{args:List qa}{st:qd}{x:qj}{v:qa}{xs:List (qa×Bool)}(hf:p.fns k=some f)(hg:f.body=g.erase)(hlen:args.length≤f.ntmps)
  (hrun:qw p g ⟨qbp 0 args,[]⟩ x st) (hx:x=.normal∨x=.ret) (hres:qaj st f.results=some xs) (hfz:freezeR (qa9 st f.results) (yw xs).1=some v) (hpv:qdn v=true):qa6 P k args v false:=by
 obtain⟨fn,hh,hfn,hcf⟩:=hp.fn k f hf
 obtain⟨c,hbd,h1,h2,h3,_⟩:=qvv hcf
 intro K w vs ht hK hK1 hargs
 have m0:=qv4 (P:=P) ht hK hK1
 have hvl:=hargs.length
 refine callsIn_of_wp_marks hfn hbd trivial ?_
 have hsz:((⟨vs⟩:Array Value)++Array.replicate (fn.ntmps-(⟨vs⟩:Array Value).size) undef).size=fn.ntmps:=by
  simp;omega
 have henv:EnvRel (.iso K) (fun _=>none) w w.heap.size (qbp 0 args) ((⟨vs⟩:Array Value)++Array.replicate (fn.ntmps-(⟨vs⟩:Array Value).size) undef):=by
  intro s x hx
  obtain⟨j,rfl,hj,hf⟩:=qn0 hx
  obtain⟨u,k1,k2⟩:=hargs.get hj
  have hlt:j<vs.length:=(List.getElem?_eq_some_iff.1 k1).1
  refine⟨u,?_,k2,by simp[hf]⟩
  rw[Nat.zero_add,Array.getElem?_append_left (by simpa using hlt)]
  simpa using k1
 refine wpIn_mono ((j3i hp (nt:=fn.ntmps) (K:=K) (w0:=w) hK hrun).1 c ⟨hh,by rw[←hg];exact h1⟩ _ w ⟨hsz,.iso K,_,Marks.nil,m0,henv⟩) ?_
 rintro e a' w' ⟨rfl,q1,C',ω',⟨rs,hds,hnd,hrs⟩,m',e'⟩
 have fin:LeavesInM Fence.wide 0 P fn a'.tmps (fun e w'=>∃u K',e=.returned u∧Ext w w'∧(∀r o x,K r o=some x→K' r o=some x)∧(∀r o,r<w.heap.size→K' r o=K r o) ∧
   (∀r o x,K' r o=some x→w'.cell? ⟨r,o,none⟩=some x)∧(∀r o x,K' r o=some x→x.oneCell'=true)∧Rep (.iso K') v u ∧
   (false=true→∃ℓ ω',OwnV (.iso K') ω' w' w.heap.size ℓ v u)) a'.defers .returning w':=by
  rw[hds]
  refine qr7 (C:=.iso K) (ω:=ω') (w0:=w) (hp:=st.heap) (env:=st.env) rs C' w' m'.grown m' e' hnd hrs (fun k hk=>hk.elim) ?_
  intro C2 w2 hle2 _ m2 e2
  obtain⟨u,ω2,k1,k2,k3,k4⟩:=qvd (fn:=fn) m2 e2 h2 hres
  refine⟨u,k1,u,qae C2 w2,rfl,?_,fun r o x hr=>qhf k2 (hle2.1 r o x hr),fun r o hr=>?_,fun r o x hr=>(qd9 k2 hr).1,fun r o x hr=>(qd9 k2 hr).2,qux k2 hfz k3 hpv,fun h=>by cases h⟩
  ·exact⟨k2.size,fun r hr=>k2.frame r hr (by simp[Ctx.iso]) (by simp[Ctx.iso]),k2.os,k2.output⟩
  ·have hold:=k2.old r o hr (by simp[Ctx.iso])
   unfold qae
   rw[if_neg]
   ·exact hold
   rintro ⟨b,hb⟩
   rcases k2.fresh b r hb with h|h|h
   ·cases h
   ·omega
   ·exact h.elim
 rcases hx with rfl|rfl
 ·exact fin
 ·exact fin
section
variable {P:Program}
theorem Tabs.table {w:World}(h:Tabs P w){g:Nat}(hg:P.globalNamed qcz=some g):Lib.TabIs P w qcz .u64 Lib.pow10Tab:=(h g (.inl hg)).2.1 hg
theorem Tabs.length {w:World}(h:Tabs P w){g:Nat}(hg:P.globalNamed qig=some g):∃m,w.cell? ⟨g,0,Option.none⟩=some (.int .i64 m):=(h g (.inr (.inl hg))).2.2.1 hg
theorem q0r {k:Nat}{args:List qa}{v:qa}(h:∀(K:Nat→Nat→Option Value) (w:World) (vs:List Value),Tabs P w→(∀r o u,K r o=some u→w.cell? ⟨r,o,none⟩=some u)→RepL (.iso K) args vs →
  ∃u,Rep (.iso K) v u∧Calls P k ⟨vs⟩ w fun e w'=>e=.returned u∧Ext w w'):qa6 P k args v false:=by
 intro K w vs ht h1 h2 hr
 obtain⟨u,hu,hc⟩:=h K w vs ht h1 hr
 refine callsIn_wide.2 (hc.mono ?_)
 rintro e w' ⟨rfl,hx⟩
 exact⟨u,K,rfl,hx,fun _ _ _ h=>h,fun _ _ _=>rfl,fun r o x hk=>hx.cell (h1 r o x hk),h2,hu,fun h=>by cases h⟩
end
open Go
def qkv:List UInt8→List UInt8→Bool
 | [],[]=>true
 |a::l,b::m=>bif Nat.beq a.toNat b.toNat then qkv l m else false
 |_,_=>false
theorem qrg:∀ {l m:List UInt8},qkv l m=true→l=m
 | [],[],_=>rfl
 | [],_::_,h=>by simp[qkv]at h
 |_::_,[],h=>by simp[qkv]at h
 |a::l,b::m,h=>by
  simp only[qkv,Bool.cond_eq_ite]at h
  split at h
  ·next hb=>rw[UInt8.toNat_inj.1 (Nat.eq_of_beq_eq_true hb),qrg h]
  ·exact absurd h (by simp)
def q1v:Int→Int→Bool
 | .ofNat a,.ofNat b=>Nat.beq a b
 | .negSucc a,.negSucc b=>Nat.beq a b
 |_,_=>false
theorem q6a:∀ {a b:Int},q1v a b=true→a=b
 | .ofNat _,.ofNat _,h=>by rw[Nat.eq_of_beq_eq_true h]
 | .negSucc _,.negSucc _,h=>by rw[Nat.eq_of_beq_eq_true h]
 | .ofNat _,.negSucc _,h=>by simp[q1v]at h
 | .negSucc _,.ofNat _,h=>by simp[q1v]at h
mutual
def eqV:qa→qa→Bool
 | .bool a,.bool b=>a == b
 | .int k a,.int k' b=>bif decide (k=k')then q1v a b else false
 | .str a,.str b=>qkv a b
 | .list a n xs,.list b m ys=>bif a == b then bif Nat.beq n m then eqL xs ys else false else false
 | .agg xs,.agg ys=>eqL xs ys
 | .tup xs,.tup ys=>eqL xs ys
 |_,_=>false
def eqL:List qa→List qa→Bool
 | [],[]=>true
 |a::l,b::m=>bif eqV a b then eqL l m else false
 |_,_=>false
end
mutual
theorem jcv:∀ {a b:qa},eqV a b=true→a=b:=by
 intro a b h
 match a,b with
 | .bool _,.bool _=>simp only[eqV,beq_iff_eq]at h;rw[h]
 | .int k a,.int k' b=>
  simp only[eqV,Bool.cond_eq_ite,decide_eq_true_eq]at h
  split at h
  ·next hk=>rw[hk,q6a h]
  ·exact absurd h (by simp)
 | .str _,.str _=>simp only[eqV]at h;rw[qrg h]
 | .list a n xs,.list b m ys=>
  simp only[eqV,Bool.cond_eq_ite,beq_iff_eq]at h
  split at h
  ·next h1=>
   split at h
   ·next h2=>rw[h1,Nat.eq_of_beq_eq_true h2,qjn h]
   ·exact absurd h (by simp)
  ·exact absurd h (by simp)
 | .agg _,.agg _=>simp only[eqV]at h;rw[qjn h]
 | .tup _,.tup _=>simp only[eqV]at h;rw[qjn h]
 | .bool _,.int .. | .bool _,.str _ | .bool _,.list .. | .bool _,.agg _ | .bool _,.tup _=>simp[eqV]at h
 | .int ..,.bool _ | .int ..,.str _ | .int ..,.list .. | .int ..,.agg _ | .int ..,.tup _=>simp[eqV]at h
 | .str _,.bool _ | .str _,.int .. | .str _,.list .. | .str _,.agg _ | .str _,.tup _=>simp[eqV]at h
 | .list ..,.bool _ | .list ..,.int .. | .list ..,.str _ | .list ..,.agg _ | .list ..,.tup _=>simp[eqV]at h
 | .agg _,.bool _ | .agg _,.int .. | .agg _,.str _ | .agg _,.list .. | .agg _,.tup _=>simp[eqV]at h
 | .tup _,.bool _ | .tup _,.int .. | .tup _,.str _ | .tup _,.list .. | .tup _,.agg _=>simp[eqV]at h
 | .ms ..,_ | .ptr ..,_ | .vptr _,_ | .nilptr,_ | .map _,_ | .nilmap,_ | .fn ..,_ | .nilfn,_ | .undef,_=>simp[eqV]at h
 | .bool _,.ms .. | .bool _,.ptr .. | .bool _,.vptr _ | .bool _,.nilptr | .bool _,.map _ | .bool _,.nilmap | .bool _,.fn .. | .bool _,.nilfn | .bool _,.undef=>simp[eqV]at h
 | .int ..,.ms .. | .int ..,.ptr .. | .int ..,.vptr _ | .int ..,.nilptr | .int ..,.map _ | .int ..,.nilmap | .int ..,.fn .. | .int ..,.nilfn | .int ..,.undef=>simp[eqV]at h
 | .str ..,.ms .. | .str ..,.ptr .. | .str ..,.vptr _ | .str ..,.nilptr | .str ..,.map _ | .str ..,.nilmap | .str ..,.fn .. | .str ..,.nilfn | .str ..,.undef=>simp[eqV]at h
 | .list ..,.ms .. | .list ..,.ptr .. | .list ..,.vptr _ | .list ..,.nilptr | .list ..,.map _ | .list ..,.nilmap | .list ..,.fn .. | .list ..,.nilfn | .list ..,.undef=>simp[eqV]at h
 | .agg ..,.ms .. | .agg ..,.ptr .. | .agg ..,.vptr _ | .agg ..,.nilptr | .agg ..,.map _ | .agg ..,.nilmap | .agg ..,.fn .. | .agg ..,.nilfn | .agg ..,.undef=>simp[eqV]at h
 | .tup ..,.ms .. | .tup ..,.ptr .. | .tup ..,.vptr _ | .tup ..,.nilptr | .tup ..,.map _ | .tup ..,.nilmap | .tup ..,.fn .. | .tup ..,.nilfn | .tup ..,.undef=>simp[eqV]at h
theorem qjn:∀ {l m:List qa},eqL l m=true→l=m:=by
 intro l m h
 match l,m with
 | [],[]=>rfl
 | [],_::_=>simp[eqL]at h
 |_::_,[]=>simp[eqL]at h
 |a::l,b::m=>
  simp only[eqL,Bool.cond_eq_ite]at h
  split at h
  ·next h1=>rw[jcv h1,qjn h]
  ·exact absurd h (by simp)
end
abbrev Row:=List qa×qa×Bool
def qow (args:List qa):List Row→Option (qa×Bool)
 | []=>none
 |r::l=>bif eqL r.1 args then some r.2 else qow args l
theorem qu1 {args:List qa}{x:qa×Bool}:∀ {l:List Row},qow args l=some x→(args,x)∈l
 | [],h=>by simp[qow]at h
 |r::l,h=>by
  simp only[qow,Bool.cond_eq_ite]at h
  split at h
  ·next hb=>
   simp only[Option.some.injEq]at h
   rw[←qjn hb,←h]
   exact List.mem_cons_self ..
  ·exact List.mem_cons_of_mem _ (qu1 h)
def qqd (tab:Nat→Option (List Row)):qi3:=fun k=>(tab k).map fun l args=>qow args l
def q93 (P:Program)(tab:Nat→Option (List Row)):Prop:=
 ∀k l,tab k=some l→∀r∈l,qa6 P k r.1 r.2.1 r.2.2
def qkt:List (Nat×List Row)→Nat→Option (List Row)
 | [],_=>none
 |(k,l)::t,n=>bif Nat.beq k n then some l else qkt t n
def qzd (P:Program)(k:Nat):List Row→Prop
 | []=>True
 |r::l=>qa6 P k r.1 r.2.1 r.2.2∧qzd P k l
def jdu (P:Program):List (Nat×List Row)→Prop
 | []=>True
 |(k,l)::t=>qzd P k l∧jdu P t
theorem q4j {P:Program}{k:Nat}:∀ {l:List Row},qzd P k l→∀r∈l,qa6 P k r.1 r.2.1 r.2.2
 |r::l,h,x,hx=>by
  cases hx with
  |head=>exact h.1
  |tail _ hx=>exact q4j h.2 x hx
theorem ja0 {P:Program}:∀ {t:List (Nat×List Row)},jdu P t→q93 P (qkt t)
 |(j,m)::t,h,k,l,hk=>by
  simp only[qkt,Bool.cond_eq_ite]at hk
  split at hk
  ·next hb=>
   rw[Nat.eq_of_beq_eq_true hb]at h
   simp only[Option.some.injEq]at hk
   subst hk
   exact q4j h.1
  ·exact ja0 h.2 k l hk
theorem q82 {P:Program}{t:qz}{tab:Nat→Option (List Row)}{M:q9f}(h:qu P (t.prog (fun _=>none) M))(ht:q93 P tab)(he:∀k l,tab k=some l→Enters P k):qu P (t.prog (qqd tab) M) where
 fn:=h.fn
 prim:=by
  intro k f hf
  simp only[qz.prog,qqd,Option.map_eq_some_iff]at hf
  obtain⟨l,hl,rfl⟩:=hf
  refine⟨he k l hl,fun args v o hv _ _=>ht k l hl _ (qu1 hv)⟩
 mixed:=h.mixed
 maps:=h.maps
theorem q9k {P:Program}{p:qo}(h:qu P p){n k b:Nat}{ow:Bool}{h1:ze}{es:List (qa×qa)}(hr:ye p (kx p n) k [] []=some (.map b,ow,h1))(hb:h1[b]?=some (.map es))(he:qb5 0 es=true):Enters P k∧qzq P k es:=
 q71 h (CodeOk.of' (qtt h n).1) (by rw[←qr6];exact hr) hb he
theorem qad {P:Program}{p:qo}(h:qu P p){n k:Nat}{args:List qa}{v:qa}{o:Bool}(hr:zb p (kx p n) k args=some (v,o))(hb:yb 0 args=true:=by rfl):qa6 P k args v o:=
 q7x h (jcb hr) hb
end Go.Abs
