/- The executor for the kernel's run. -/
import Derived.Test.YtfopaakmgogpiaaGreatDoorAbsG
import Derived.ProofKit
import Derived.OpenShut
import Derived.ShutString
open Option renaming some→I,none→Gk,bind_some→Mr
open Bool renaming true→En,and_eq_true→E3,cond_eq_ite→E4,false→E6
open Nat renaming eq_of_beq_eq_true→E1,le_max_right→Gl,le_max_left→Gn,beq→G2,succ_mul→H7,ble→Mn,blt→Nh
open List renaming getElem?_range→E2,range→Gm,length_eq_zero_iff→Gp,mem_of_getElem?→Gq,getElem?_eq_some_iff→Ha,mem_cons_of_mem→Hb,mem_cons_self→Hd,flatten_cons→If,length_range→Md,getElem?_map→Mm,mem_append→Mw,drop_drop→Mx,map_cons→N0,all_cons→N1
namespace Go.Abs
def gZ {α:Type}(n:Nat)(f:Nat→α):α:=match n with
 |0=>f 0
 |m+1=>f (Nat.succ m)
def TS {α:Type}(n:Int)(f:Int→α):α:=match n with
 | .ofNat a=>gZ a fun a=>f (.ofNat a)
 | .negSucc a=>gZ a fun a=>f (.negSucc a)
def F1 {α:Type}(b:Bool)(f:Bool→α):α:=match b with
 |true=>f En
 |false=>f E6
def q0m {α:Type}(k:IntKind)(f:IntKind→α):α:=match k with
 | .i8=>f .i8 | .i16=>f .i16 | .i32=>f .i32 | .i64=>f .i64 | .u8=>f .u8 | .u16=>f .u16 | .u32=>f .u32 | .u64=>f .u64
def F2 {α:Type}:List UInt8→(List UInt8→α)→α
 | [],f=>f []
 |c::s,f=>F2 s fun s=>f (c::s)
def TT {α:Type}(g:Fn)(f:Fn→α):α:=match g with
 | .func k=>gZ k fun k=>f (.func k)
 | .yield k=>gZ k fun k=>f (.yield k)
 |g=>f g
mutual
def gE {α:Type}:qa→(qa→α)→α
 | .bool b,f=>F1 b fun b=>f (.bool b)
 | .int k n,f=>q0m k fun k=>TS n fun n=>f (.int k n)
 | .str s,f=>F2 s fun s=>f (.str s)
 | .list b sz xs,f=>F1 b fun b=>gZ sz fun sz=>vp xs fun xs=>f (.list b sz xs)
 | .ms b o l,f=>gZ b fun b=>gZ o fun o=>gZ l fun l=>f (.ms b o l)
 | .ptr b o,f=>gZ b fun b=>gZ o fun o=>f (.ptr b o)
 | .ah v,f=>gE v fun v=>f (.ah v)
 | .cE n,f=>gZ n fun n=>f (.cE n)
 | .bN,f=>f .bN
 | .map b,f=>gZ b fun b=>f (.map b)
 | .bM,f=>f .bM
 | .fn g a c,f=>TT g fun g=>vp a fun a=>vp c fun c=>f (.fn g a c)
 | .bX,f=>f .bX
 | .agg cs,f=>vp cs fun cs=>f (.agg cs)
 | .aC cs,f=>vp cs fun cs=>f (.aC cs)
 | .undef,f=>f .undef
 | .any,f=>f .any
 | .ak b bu len,f=>gZ b fun b=>gZ bu fun bu=>gZ len fun len=>f (.ak b bu len)
 | .dq b bu off,f=>gZ b fun b=>gZ bu fun bu=>gZ off fun off=>f (.dq b bu off)
def vp {α:Type}:List qa→(List qa→α)→α
 | [],f=>f []
 |x::xs,f=>gE x fun x=>vp xs fun xs=>f (x::xs)
end
def F3 {α:Type}:Env→(Env→α)→α
 | [],f=>f []
 |(t,v,o)::e,f=>gZ t fun t=>gE v fun v=>F1 o fun o=>F3 e fun e=>f ((t,v,o)::e)
def MN {α:Type}:List (qa×Bool)→(List (qa×Bool)→α)→α
 | [],f=>f []
 |(v,o)::e,f=>gE v fun v=>F1 o fun o=>MN e fun e=>f ((v,o)::e)
def MO {α:Type}:List (qa×qa)→(List (qa×qa)→α)→α
 | [],f=>f []
 |(k,v)::e,f=>gE k fun k=>gE v fun v=>MO e fun e=>f ((k,v)::e)
def TU {α:Type}(x:Option qo)(f:Option qo→α):α:=match x with
 |none=>f Gk
 |some .normal=>f (I .normal)
 |some (.exit id)=>gZ id fun id=>f (I (.exit id))
 |some .ret=>f (I .ret)
def TV {α:Type}:qn→(qn→α)→α
 | .hole,f=>f .hole
 | .cells cs,f=>MN cs fun cs=>f (.cells cs)
 | .map es,f=>MO es fun es=>f (.map es)
 | .iter s pos,f=>gZ pos fun pos=>f (.iter s pos)
 | .fB t e l,f=>F2 l fun l=>f (.fB t e l)
 | .dead,f=>f .dead
 -- (what a vector holds was forced when it was appended)
 | .vec sz bu xs,f=>gZ sz fun sz=>gZ bu fun bu=>f (.vec sz bu xs)
 | .loop l,f=>F3 l.env fun e=>TU l.pending fun x=>f (.loop ⟨e,l.params,l.assign,l.body,x⟩)
def MP {α:Type}:j8→(j8→α)→α
 | [],f=>f []
 |b::h,f=>TV b fun b=>MP h fun h=>f (b::h)
def F4 {α:Type}(st:qg)(f:qg→α):α:=F3 st.env fun e=>MP st.heap fun h=>f ⟨e,h⟩
section
variable {α:Type}
theorem oT (n:Nat)(f:Nat→α):gZ n f=f n:=by cases n<;>rfl
theorem q5f (n:Int)(f:Int→α):TS n f=f n:=by cases n<;>simp[TS,oT]
theorem MQ (n:Bool)(f:Bool→α):F1 n f=f n:=by cases n<;>rfl
theorem q16 (n:IntKind)(f:IntKind→α):q0m n f=f n:=by cases n<;>rfl
theorem TW:∀ (s:List UInt8) (f:List UInt8→α),F2 s f=f s
 | [],_=>rfl
 |c::s,f=>by simp only[F2];rw[TW s]
theorem jaw (g:Fn)(f:Fn→α):TT g f=f g:=by cases g<;>simp[TT,oT]
mutual
theorem F5:∀ (v:qa) (f:qa→α),gE v f=f v
 | .bool b,f=>by simp only[gE,MQ]
 | .int k n,f=>by simp only[gE,q16,q5f]
 | .str s,f=>by simp only[gE,TW]
 | .list b sz xs,f=>by simp only[gE,MQ,oT];rw[zX xs]
 | .ms b o l,f=>by simp only[gE,oT]
 | .ptr b o,f=>by simp only[gE,oT]
 | .ah v,f=>by simp only[gE];rw[F5 v]
 | .cE n,f=>by simp only[gE,oT]
 | .bN,f=>by simp only[gE]
 | .map b,f=>by simp only[gE,oT]
 | .bM,f=>by simp only[gE]
 | .fn g a c,f=>by simp only[gE,jaw];rw[zX a,zX c]
 | .bX,f=>by simp only[gE]
 | .agg cs,f=>by simp only[gE];rw[zX cs]
 | .aC cs,f=>by simp only[gE];rw[zX cs]
 | .undef,f=>by simp only[gE]
 | .any,f=>by simp only[gE]
 | .ak b bu len,f=>by simp only[gE,oT]
 | .dq b bu off,f=>by simp only[gE,oT]
theorem zX:∀ (l:List qa) (f:List qa→α),vp l f=f l
 | [],f=>by simp only[vp]
 |x::xs,f=>by simp only[vp];rw[F5 x,zX xs]
end
theorem TX:∀ (e:Env) (f:Env→α),F3 e f=f e
 | [],_=>rfl
 |(t,v,o)::e,f=>by simp only[F3,oT,F5,MQ];rw[TX e]
theorem qps:∀ (e:List (qa×Bool)) (f:List (qa×Bool)→α),MN e f=f e
 | [],_=>rfl
 |(v,o)::e,f=>by simp only[MN,F5,MQ];rw[qps e]
theorem qll:∀ (e:List (qa×qa)) (f:List (qa×qa)→α),MO e f=f e
 | [],_=>rfl
 |(v,o)::e,f=>by simp only[MO,F5];rw[qll e]
theorem q2c (x:Option qo)(f:Option qo→α):TU x f=f x:=by
 cases x with
 |none=>rfl
 |some x=>cases x<;>simp[TU,oT]
theorem q5k (b:qn)(f:qn→α):TV b f=f b:=by
 cases b<;>simp[TV,qps,qll,oT,TW,TX,q2c,zX]
theorem qr4:∀ (h:j8) (f:j8→α),MP h f=f h
 | [],_=>rfl
 |b::h,f=>by simp only[MP,q5k];rw[qr4 h]
theorem TY (st:qg)(f:qg→α):F4 st f=f st:=by simp only[F4,TX,qr4]
end
def hM (p:qt):Nat→XC
 |0,_,_=>Gk
 |n+1,c,st=>match c with
  | .skip=>I (.normal,st)
  | .region na ops keep=>match l8 p (hM p n) na ops keep st with
   |some (x,bJ)=>F4 bJ fun s=>I (x,s)
   |none=>Gk
  | .seq a b=>match hM p n a st with
   |some (.normal,bJ)=>hM p n b bJ
   |r=>r
  | .cond c a b=>match zd st.env c with
   |some (.bool t)=>bif t then hM p n a st else hM p n b st
   |_=>Gk
  | .block id body=>match hM p n body st with
   |some (.exit fp,bJ)=>bif G2 fp id then I (.normal,bJ)else I (.exit fp,bJ)
   |r=>r
  | .loop body=>match hM p n body st with
   |some (.normal,bJ)=>F4 (gc st.heap.length bJ) fun s=>hM p n (.loop body) s
   |r=>r
  | .rangeFunc f params assign body=>match l9 p (hM p n) f params assign body st with
   |some (x,bJ)=>F4 bJ fun s=>I (x,s)
   |none=>Gk
  | .exit id=>I (.exit id,st)
  | .ret=>I (.ret,st)
  | .grow sz=>match yd 0 st.env,yd 1 st.env with
   |some (.list En _ _,_),I (.int .i64 (.ofNat m),_)=>bif Nh 0 m&&Mn m 1073741824 then I (.normal,{ st with env:=[(0,.list E6 sz [],En)] })else Gk
   |_,_=>Gk
  | .stuck=>Gk
theorem MR (p:qt):∀n,hM p n=ye p n
 |0=>by funext c st;rfl
 |n+1=>by
  have ih:=MR p n
  funext c st
  cases c with
  |region na ops keep=>
   simp only[hM,ye,ih]
   cases l8 p (ye p n) na ops keep st with
   |none=>rfl
   |some r=>simp only[TY]
  |rangeFunc f ps a b=>
   simp only[hM,ye,ih]
   cases l9 p (ye p n) f ps a b st with
   |none=>rfl
   |some r=>simp only[TY]
  |loop body=>
   simp only[hM,ye,ih,TY]
   rfl
  |_=>simp only[hM,ye,ih]<;>rfl
inductive jc where
 |leaf (k:Nat) (f:qd)
 |node (m:Nat) (a b:jc)
def jc.find:jc→Nat→Option qd
 | .leaf k f,n=>bif G2 k n then I f else Gk
 | .node m a b,n=>bif Nh n m then a.find n else b.find n
def jc.All (Q:Nat→qd→Prop):jc→Prop
 | .leaf k f=>Q k f
 | .node _ a b=>a.All Q∧b.All Q
theorem jc.fJ {Q:Nat→qd→Prop}:∀ {t:jc} {k:Nat} {f:qd},t.All Q→t.find k=I f→Q k f
 | .leaf j g,k,f,h,hf=>by
  simp only[jc.find]at hf
  cases hb:G2 j k with
  |false=>simp[hb]at hf
  |true=>
   have:=E1 hb
   subst this
   simp only[hb,cT,I.injEq]at hf
   subst hf;exact h
 | .node m a b,k,f,h,hf=>by
  simp only[jc.find]at hf
  cases hb:Nh k m with
  |true=>simp only[hb,cT]at hf;exact jc.fJ h.1 hf
  |false=>simp only[hb,cond_false]at hf;exact jc.fJ h.2 hf
def jc.prog (t:jc)(cm:uX)(maps:LX:=fun _=>Gk):qt:={ bL:=t.find,cm:=cm,maps:=maps }
theorem jby {p:qt}{n k:Nat}{args:List qa}{r:Option (qa×Bool)}(h:jz p (hM p n) k args=r):jz p (ye p n) k args=r:=by
 rw[←MR];exact h
def Kw (w:World):Nat→Nat→Option Value:=fun r o=>(w.cell? ⟨r,o,Gk⟩).filter (·.oneCell')
theorem jy4 {w:World}{r o:Nat}{v:Value}(h:w.cell? ⟨r,o,Gk⟩=I v)(h1:v.oneCell'=En):Kw w r o=I v:=by simp[Kw,h,h1]
theorem q66 {w:World}{r o:Nat}{v:Value}(h:Kw w r o=I v):w.cell? ⟨r,o,Gk⟩=I v∧v.oneCell'=En:=by
 unfold Kw at h;rw[Option.filter_eq_some_iff]at h;exact h
def qho (P:Program)(t:TypeId):Bool:=match P.underlying t with
 |some (.struct _)=>En
 |some (.array _ _)=>En
 |_=>E6
def MS (P:Program):Nat→List Field→Bool
 |_,[]=>En
 |o,f::fs=>f.offset == o&&MS P (o+P.cellsOf f.type) fs
def MT (P:Program)(fs:List Field):Nat:=(fs.map fun f=>P.cellsOf f.type).sum
def qF (P:Program):Nat→TypeId→Bool
 |0,_=>E6
 |n+1,t=>match P.underlying t with
  |some .bool=>P.cellsOf t == 1
  |some (.int _)=>P.cellsOf t == 1
  |some .string=>P.cellsOf t == 1
  |some (.slice e)=>P.cellsOf t == 1&&qF P n e&&decide (0<P.cellsOf e)
  |some (.struct fs)=>MS P 0 fs.toList&&MT P fs.toList == P.cellsOf t&&fs.toList.all fun f=>qF P n f.type
  |some (.array k e)=>P.cellsOf t == k*P.cellsOf e&&qF P n e
  |_=>E6
def F6 (ty:TypeId→List qa→Prop):List Field→List qa→Prop
 | [],cs=>cs=[]
 |f::fs,cs=>∃ys zs,cs=ys++zs∧ty f.type ys∧F6 ty fs zs
def F7 (ty:List qa→Prop):Nat→List qa→Prop
 |0,cs=>cs=[]
 |k+1,cs=>∃ys zs,cs=ys++zs∧ty ys∧F7 ty k zs
def qaw (P:Program):Nat→TypeId→List qa→Prop
 |0,_,_=>False
 |n+1,t,cs=>match P.underlying t with
  |some .bool=>∃b,cs=[.bool b]
  |some (.int k)=>∃m,cs=[.int k m]∧(Lit.int k m).wf=En
  |some .string=>∃s,cs=[.str s]∧s.length≤maxLen
  |some (.slice e)=>cs=[.list En 0 []]∨∃xs,cs=[.list E6 (P.cellsOf e) xs]∧xs.length≤maxLen∧∀y∈xs,qaw P n e y.flat∧y.isAgg=qho P e
  |some (.struct fs)=>F6 (qaw P n) fs.toList cs
  |some (.array k e)=>F7 (qaw P n e) k cs
  |_=>False
section
variable {P:Program}{H:Type}{enc:TypeId×Value→H}{w:World}
theorem q0a:∀ (fs:List Field) (o:Nat) (vs:List Value),MS P o fs=En→vs.length=o+MT P fs→vs.drop o=(fs.map fun f=>(vs.drop f.offset).take (P.cellsOf f.type)).flatten
 | [],o,vs,_,hl=>by simp[MT]at hl;simp[hl]
 |f::fs,o,vs,ht,hl=>by
  simp only[MS,E3,beq_iff_eq]at ht
  obtain⟨rfl,ht⟩:=ht
  have ih:=q0a fs _ vs ht (by simp[MT]at hl ⊢;omega)
  rw[N0,If,←ih,←Mx,List.take_append_drop]
theorem Dt {α β:Type}{f:α→Option β}:∀ {l:List α} {ys:List β},l.mapM f=I ys→ys.length=l.length∧∀(i:Nat) (x:α),l[i]?=I x→∃y,ys[i]?=I y∧f x=I y
 | [],ys,h=>by simp at h;subst h;simp
 |a::l,ys,h=>by
  rw[List.mapM_cons]at h
  cases hf:f a with
  |none=>simp[hf]at h
  |some y=>
   cases hr:l.mapM f with
   |none=>simp[hf,hr]at h
   |some zs=>
    simp[hf,hr]at h
    subst h
    obtain⟨h1,h2⟩:=Dt hr
    refine⟨by simp[h1],fun i x hx=>?_⟩
    cases i with
    |zero=>simp at hx;subst hx;exact⟨y,rfl,hf⟩
    |succ i=>simp at hx;obtain⟨z,h3,h4⟩:=h2 i x hx;exact⟨z,by simpa using h3,h4⟩
theorem q2z {base n:Nat}{a:Addr}{vs:List Value}(h:w.cells? base a n=I vs):vs.length=n∧∀(i:Nat) (v:Value),vs[i]?=I v→w.cell? (a.add i)=I v:=by
 unfold World.cells? at h
 split at h
 ·obtain⟨h1,h2⟩:=Dt h
  rw[Md]at h1
  refine⟨h1,fun i v hv=>?_⟩
  have hi:i<n:=by rw[←h1];exact(Ha.1 hv).1
  obtain⟨y,h3,h4⟩:=h2 i i (by rw[E2 hi])
  rw[hv]at h3;cases h3;exact h4
 ·cases h
theorem qxx {ty:TypeId→List qa→Prop}:∀(fs:List Field) (mJ:List (List Value)),mJ.length=fs.length→(∀(i:Nat) (f:Field) (vs:List Value),fs[i]?=I f→mJ[i]?=I vs→∃cs,aM (.bK (Kw w)) cs vs∧ty f.type cs)→∃cs,aM (.bK (Kw w)) cs mJ.flatten∧F6 ty fs cs
 | [],mJ,hl,_=>by
  have:mJ=[]:=Gp.1 (by simpa using hl)
  subst this
  exact⟨[],.nil,rfl⟩
 |f::fs,[],hl,_=>by simp at hl
 |f::fs,vs::mJ,hl,h=>by
  obtain⟨ys,h1,h2⟩:=h 0 f vs rfl rfl
  obtain⟨zs,h3,h4⟩:=qxx fs mJ (by simpa using hl) (fun i f' pN hf hv=>h (i+1) f' pN (by simpa using hf) (by simpa using hv))
  exact⟨ys++zs,aM.append h1 h3,ys,zs,rfl,h2,h4⟩
theorem qub {ty:List qa→Prop}:∀(k:Nat) (mJ:List (List Value)),mJ.length=k→(∀(i:Nat) vs,mJ[i]?=I vs→∃cs,aM (.bK (Kw w)) cs vs∧ty cs)→∃cs,aM (.bK (Kw w)) cs mJ.flatten∧F7 ty k cs
 |0,mJ,hl,_=>by
  have:mJ=[]:=Gp.1 hl
  subst this
  exact⟨[],.nil,rfl⟩
 |k+1,[],hl,_=>by simp at hl
 |k+1,vs::mJ,hl,h=>by
  obtain⟨ys,h1,h2⟩:=h 0 vs rfl
  obtain⟨zs,h3,h4⟩:=qub k mJ (by simpa using hl) (fun i pN hv=>h (i+1) pN (by simpa using hv))
  exact⟨ys++zs,aM.append h1 h3,ys,zs,rfl,h2,h4⟩
theorem q7b (n:Nat):∀(k:Nat) (vs:List Value),vs.length=k*n→vs=((Gm k).map fun i=>(vs.drop (i*n)).take n).flatten
 |0,vs,hl=>by
  have:vs=[]:=Gp.1 (by simpa using hl)
  simp[this]
 |k+1,vs,hl=>by
  have ih:=q7b n k (vs.drop n) (by simp[hl,H7])
  rw[List.range_succ_eq_map,N0,If,List.map_map]
  have e:(Gm k).map ((fun i=>(vs.drop (i*n)).take n) ∘ Nat.succ)=(Gm k).map fun i=>((vs.drop n).drop (i*n)).take n:=by
   apply List.map_congr_left
   intro i _
   simp only[Function.comp,Mx]
   congr 2
   rw[H7];omega
  rw[e,←ih]
  simp
theorem T0:∀ {n:Nat} {t:TypeId} {cs:List qa},qaw P n t cs→∀x∈cs,ze x=En
 |0,_,_,h=>h.elim
 |n+1,t,cs,h=>by
  have fsc:∀(fs:List Field) (cs:List qa),F6 (qaw P n) fs cs→∀x∈cs,ze x=En:=by
   intro fs
   induction fs with
   |nil=>intro cs h;simp only[F6]at h;subst h;simp
   |cons f fs ih=>
    rintro cs ⟨ys,zs,rfl,h1,h2⟩ x hx
    rcases Mw.1 hx with hx|hx
    ·exact T0 h1 x hx
    ·exact ih _ h2 x hx
  have rsc:∀(e:TypeId) (k:Nat) (cs:List qa),F7 (qaw P n e) k cs→∀x∈cs,ze x=En:=by
   intro e k
   induction k with
   |zero=>intro cs h;simp only[F7]at h;subst h;simp
   |succ k ih=>
    rintro cs ⟨ys,zs,rfl,h1,h2⟩ x hx
    rcases Mw.1 hx with hx|hx
    ·exact T0 h1 x hx
    ·exact ih _ h2 x hx
  simp only[qaw]at h
  split at h
  ·obtain⟨b,rfl⟩:=h;simp[ze]
  ·obtain⟨m,rfl,_⟩:=h;simp[ze]
  ·obtain⟨s,rfl,_⟩:=h;simp[ze]
  ·rcases h with rfl|⟨xs,rfl,_⟩<;>simp[ze]
  ·exact fsc _ _ h
  ·exact rsc _ _ _ h
  ·exact h.elim
theorem qvq {n:Nat}{t:TypeId}{cs:List qa}(h:qaw P n t cs)(ha:qho P t=E6):∃x,cs=[x]∧x.isAgg=E6:=by
 cases n with
 |zero=>exact h.elim
 |succ n=>
  unfold qho at ha
  simp only[qaw]at h
  split at h
  ·obtain⟨b,rfl⟩:=h;exact⟨_,rfl,rfl⟩
  ·obtain⟨m,rfl,_⟩:=h;exact⟨_,rfl,rfl⟩
  ·obtain⟨s,rfl,_⟩:=h;exact⟨_,rfl,rfl⟩
  ·rcases h with rfl|⟨xs,rfl,_⟩<;>exact⟨_,rfl,rfl⟩
  ·rename_i hu;rw[hu]at ha;cases ha
  ·rename_i hu;rw[hu]at ha;cases ha
  ·exact h.elim
theorem read {held:Bool}:∀(n fuel:Nat) (t:TypeId) (vs:List Value) (d:DataW H) (ps:List MemPlace),qF P n t=En→DataW.trod enc P w 0 (fun _=>En) held fuel t vs=I (d,ps) →
  ∃cs,aM (.bK (Kw w)) cs vs∧qaw P n t cs∧cs.length=P.cellsOf t
 |0,_,_,_,_,_,hp,_=>by simp[qF]at hp
 |n+1,0,_,_,_,_,_,h=>by simp[DataW.trod]at h
 |n+1,fuel+1,t,vs,d,ps,hp,h=>by
  simp only[qF]at hp
  simp only[qaw]
  simp only[DataW.trod]at h
  cases hu:P.underlying t with
  |none=>simp[hu]at hp
  |some td=>
   rw[hu]at h hp
   cases td with
   |bool=>
    simp only[beq_iff_eq]at hp
    split at h<;>first|cases ‹I _=I _› | skip
    all_goals first|(rename_i heq;cases heq;done)|skip
    ·exact⟨_,.cons _ _ _ _ (.bool _) .nil,⟨_,rfl⟩,by simp[hp]⟩
    ·cases h
   |int k=>
    simp only[beq_iff_eq]at hp
    split at h<;>first|cases ‹I _=I _› | skip
    all_goals first|(rename_i heq;cases heq;done)|skip
    ·split at h
     ·rename_i hk
      obtain⟨rfl,cV⟩:=hk
      exact⟨_,.cons _ _ _ _ (.int _ _) .nil,⟨_,rfl,cV⟩,by simp[hp]⟩
     ·cases h
    ·cases h
   |string=>
    simp only[beq_iff_eq]at hp
    split at h<;>first|cases ‹I _=I _› | skip
    all_goals first|(rename_i heq;cases heq;done)|skip
    ·rename_i s
     split at h
     ·rename_i hk
      refine⟨[.str s.data.toList],.cons _ _ _ _ (qp.str s.data.toList) .nil,⟨_,rfl,?_⟩,by simp[hp]⟩
      simpa using hk
     ·cases h
    ·cases h
   |slice e=>
    simp only[E3,beq_iff_eq,decide_eq_true_eq]at hp
    obtain⟨⟨iZ,MU⟩,hp3⟩:=hp
    split at h<;>first|cases ‹I _=I _› | skip
    all_goals first|(rename_i heq;cases heq;done)|skip
    ·exact⟨_,.cons _ _ _ _ (.iH 0) .nil,.inl rfl,by simp[iZ]⟩
    ·rename_i a len cap
     split at h
     ·rename_i hk
      obtain⟨_,cV,hk3⟩:=hk
      cases he:(Gm len).mapM (fun i=>(w.cells? 0 (a.add (i*P.cellsOf e)) (P.cellsOf e)).bind (DataW.trod enc P w 0 (fun _=>En) held fuel e))with
      |none=>simp[he]at h
      |some elems=>
       simp only[he,Mr,if_true]at h
       cases hr:(Gm (cap-len)).mapM (fun j=>(w.cells? 0 (a.add ((len+j)*P.cellsOf e)) (P.cellsOf e)).bind (DataW.trod enc P w 0 (fun _=>En) held fuel e))with
       |none=>simp[hr]at h
       |some rest=>
        obtain⟨he1,Mz⟩:=Dt he
        obtain⟨vh,pW⟩:=Dt hr
        rw[Md]at he1 vh
        have F8:0<cap→a.spot=Gk:=fun hc=>by
         have vq:∃z,(w.cells? 0 (a.add (0*P.cellsOf e)) (P.cellsOf e)).bind (DataW.trod enc P w 0 (fun _=>En) held fuel e)=I z:=by
          by_cases hl:0<len
          ·obtain⟨y,_,hy⟩:=Mz 0 0 (by rw[E2 hl]);exact⟨y,hy⟩
          ·obtain⟨y,_,hy⟩:=pW 0 0 (by rw[E2 (by omega)])
           have EM:len=0:=by omega
           subst EM
           exact⟨y,by simpa using hy⟩
         obtain⟨z0,vq⟩:=vq
         cases MV:w.cells? 0 (a.add (0*P.cellsOf e)) (P.cellsOf e)with
         |none=>rw[MV]at vq;cases vq
         |some us0=>
          obtain⟨d1,d2⟩:=q2z MV
          have dh:=d2 0 _ (List.getElem?_eq_getElem (show 0<us0.length by omega))
          have:=World.cell?_spot dh
          simpa[Addr.add]using this
        by_cases hcap:0<cap
        ·have MH:=F8 hcap
         obtain⟨r,o,sp⟩:=a
         simp only at MH
         subst MH
         have elem:∀(i:Nat),i<len→∃y:qa,bY (.bK (Kw w)) r y.flat (o+i*P.cellsOf e)∧y.flat.length=P.cellsOf e∧qaw P n e y.flat∧y.isAgg=qho P e:=by
          intro i hi
          obtain⟨z,_,hz⟩:=Mz i i (by rw[E2 hi])
          cases hc:w.cells? 0 ((⟨r,o,Gk⟩:Addr).add (i*P.cellsOf e)) (P.cellsOf e)with
          |none=>simp[hc]at hz
          |some us=>
           simp only[hc,Mr]at hz
           obtain⟨c1,c2⟩:=q2z hc
           obtain⟨cs,k1,k2,k3⟩:=read n fuel e us z.1 z.2 MU hz
           have cI:=yX k1 (T0 k2)
           have hcs:bY (.bK (Kw w)) r cs (o+i*P.cellsOf e):=bY.gW k1 fun j v hj=>by
            have h1:=c2 j v hj
            rw[add_lit,add_lit]at h1
            exact jy4 h1 (cI v (Gq hj))
           cases cK:qho P e with
           |true=>exact⟨.agg cs,hcs,k3,k2,rfl⟩
           |false=>
            obtain⟨x,rfl,hx⟩:=qvq k2 cK
            have hf:x.flat=[x]:=qcf hx
            exact⟨x,by rw[hf];exact hcs,by rw[hf];exact k3,by rw[hf];exact k2,hx⟩
         have rows:∀(m:Nat) (q:Nat),q+m=len→∃ys:List qa,ys.length=m∧aY (.bK (Kw w)) r (P.cellsOf e) ys (o+q*P.cellsOf e)∧∀y∈ys,qaw P n e y.flat∧y.isAgg=qho P e:=by
          intro m
          induction m with
          |zero=>intro q _;exact⟨[],rfl,.fe _ _ _,by simp⟩
          |succ m ih=>
           intro q hq
           obtain⟨ys,y1,y2,y3⟩:=ih (q+1) (by omega)
           obtain⟨y,z1,z2,z3⟩:=elem q (by omega)
           refine⟨y::ys,by simp[y1],.cY _ _ _ _ _ z2 z1 ?_,?_⟩
           ·rw[show o+q*P.cellsOf e+P.cellsOf e=o+(q+1)*P.cellsOf e from by rw[H7];omega];exact y2
           ·intro x hx
            rcases List.mem_cons.1 hx with rfl|hx
            ·exact z3
            ·exact y3 x hx
         obtain⟨ys,y1,y2,y3⟩:=rows len 0 (by omega)
         rw[Nat.zero_mul,Nat.add_zero]at y2
         subst y1
         exact⟨_,.cons _ _ _ _ (.list (P.cellsOf e) ys r o cap cV y2) .nil,.inr ⟨ys,rfl,by omega,y3⟩,by simp[iZ]⟩
        ·have MV:cap=0:=by omega
         have EM:len=0:=by omega
         subst MV;subst EM
         by_cases lO:a.spot=Gk
         ·obtain⟨r,o,sp⟩:=a
          simp only at lO
          subst lO
          exact⟨_,.cons _ _ _ _ (.list (P.cellsOf e) [] r o 0 (by simp) (.fe _ _ _)) .nil,.inr ⟨[],rfl,by simp,by simp⟩,by simp[iZ]⟩
         ·exact⟨_,.cons _ _ _ _ (.iI (P.cellsOf e) a lO) .nil,.inr ⟨[],rfl,by simp,by simp⟩,by simp[iZ]⟩
     ·cases h
    ·cases h
   |struct fs=>
    simp only[E3,beq_iff_eq,List.all_eq_true]at hp
    obtain⟨⟨iZ,MU⟩,hp3⟩:=hp
    change (if vs.length=P.cellsOf t then(fs.toList.mapM fun f=>DataW.trod enc P w 0 (fun _=>En) held fuel f.type ((vs.drop f.offset).take (P.cellsOf f.type))).map fun xs=>(DataW.agg (xs.map (·.1)),xs.flatMap (·.2))else Gk)=I (d,ps)at h
    ·split at h
     ·rename_i hl
      cases hm:fs.toList.mapM (fun f=>DataW.trod enc P w 0 (fun _=>En) held fuel f.type ((vs.drop f.offset).take (P.cellsOf f.type)))with
      |none=>simp[hm]at h
      |some zs=>
       obtain⟨m1,m2⟩:=Dt hm
       have zY:=q0a fs.toList 0 vs iZ (by omega)
       obtain⟨cs,k1,k2⟩:=qxx (w:=w) (ty:=qaw P n) fs.toList (fs.toList.map fun f=>(vs.drop f.offset).take (P.cellsOf f.type)) (by simp) (fun i f us hf hv=>by
        obtain⟨z,_,hz⟩:=m2 i f hf
        have gy:us=(vs.drop f.offset).take (P.cellsOf f.type):=by
         rw[Mm,hf]at hv
         simpa using hv.symm
        subst gy
        obtain⟨cs,q1,q2,_⟩:=read n fuel f.type _ z.1 z.2 (hp3 f (Gq hf)) hz
        exact⟨cs,q1,q2⟩)
       rw[←zY]at k1
       exact⟨cs,by simpa using k1,k2,by have:=k1.length;simp at this;omega⟩
     ·cases h
   |array k e=>
    simp only[E3,beq_iff_eq]at hp
    obtain⟨iZ,MU⟩:=hp
    change (if vs.length=P.cellsOf t then((Gm k).mapM fun i=>DataW.trod enc P w 0 (fun _=>En) held fuel e ((vs.drop (i*P.cellsOf e)).take (P.cellsOf e))).map fun xs=>(DataW.agg (xs.map (·.1)),xs.flatMap (·.2))else Gk)=I (d,ps)at h
    ·split at h
     ·rename_i hl
      cases hm:(Gm k).mapM (fun i=>DataW.trod enc P w 0 (fun _=>En) held fuel e ((vs.drop (i*P.cellsOf e)).take (P.cellsOf e)))with
      |none=>simp[hm]at h
      |some zs=>
       obtain⟨m1,m2⟩:=Dt hm
       have zY:=q7b (P.cellsOf e) k vs (by omega)
       obtain⟨cs,k1,k2⟩:=qub (w:=w) (ty:=qaw P n e) k ((Gm k).map fun i=>(vs.drop (i*P.cellsOf e)).take (P.cellsOf e)) (by simp) (fun i us hv=>by
        have hi:i<k:=by
         have:=(Ha.1 hv).1
         simpa using this
        obtain⟨z,_,hz⟩:=m2 i i (by rw[E2 hi])
        have gy:us=(vs.drop (i*P.cellsOf e)).take (P.cellsOf e):=by
         rw[Mm,E2 hi]at hv
         simpa using hv.symm
        subst gy
        obtain⟨cs,q1,q2,_⟩:=read n fuel e _ z.1 z.2 MU hz
        exact⟨cs,q1,q2⟩)
       rw[←zY]at k1
       exact⟨cs,k1,k2,by have:=k1.length;omega⟩
     ·cases h
   |_=>simp at hp
end
open Go.ChangeShapes Go.WideShapes Go.ChangeAt Go.RowKit
section
variable {P:Program}{H:Type}{enc:TypeId×Value→H}{w:World}
def jcz (P:Program)(n:Nat)(t:TypeId)(x:qa):Prop:=qaw P n t x.flat∧x.isAgg=qho P t
def qpp (P:Program)(n:Nat):List TypeId→List qa→Prop
 | [],xs=>xs=[]
 |t::ts,xs=>∃y ys,xs=y::ys∧jcz P n t y∧qpp P n ts ys
theorem jna {n:Nat}{t:TypeId}{v:Value}{d:DataW H}{ps:List MemPlace}{base:Nat}(hp:qF P n t=En)(hv:Value.okWide P w .any base t v)(h:DataW.Trod enc P w 0 (fun _=>En) En t v d ps):∃x,bD (.bK (Kw w)) x v∧jcz P n t x:=by
 obtain⟨fuel,hf⟩:=h
 obtain⟨cs,k1,k2,k3⟩:=read n fuel t _ d ps hp hf
 cases cK:qho P t with
 |true=>
  have Ft:∃cells,v=.agg cells:=by
   unfold qho at cK
   unfold Value.okWide at hv
   split at cK
   ·rename_i fs hu;rw[hu]at hv;obtain⟨c,hc,_⟩:=hv;exact⟨c,hc⟩
   ·rename_i a b hu;rw[hu]at hv;obtain⟨c,hc,_⟩:=hv;exact⟨c,hc⟩
   ·cases cK
  obtain⟨cells,rfl⟩:=Ft
  exact⟨.agg cs,.agg cs cells.toList k1,k2,cK.symm⟩
 |false=>
  obtain⟨x,rfl,hx⟩:=qvq k2 cK
  have Ft:v.cells.toList=[v]:=by
   cases v with
   |agg c=>
    exfalso
    unfold Value.okWide at hv
    unfold qho at cK
    cases n with
    |zero=>simp[qF]at hp
    |succ n=>
     simp only[qF]at hp
     cases hu:P.underlying t with
     |none=>rw[hu]at hp;cases hp
     |some td=>rw[hu]at hp hv cK;cases td<;>first|(simp at hp;done)|(simp at cK;done)|(simp[Cell.okWide,hu,Cell.ok]at hv;done)
   |_=>rfl
  rw[Ft]at k1
  cases k1 with
  |cons _ _ _ _ h1 _=>exact⟨x,h1,by rw[qcf hx];exact k2,by rw[hx,cK]⟩
theorem q6k {n:Nat}:∀ {ts:List TypeId} {vs:List Value} {ds:List (DataW H)} {ps:List MemPlace},ts.all (qF P n)=En→(∀(j:Nat) t v,ts[j]?=I t→vs[j]?=I v→∃base,Value.okWide P w .any base t v)→DataW.TrodAll enc P w 0 (fun _=>En) En ts vs ds ps →
  ds.length=ts.length∧∃xs,aM (.bK (Kw w)) xs vs∧qpp P n ts xs
 | [],[],[],ps,_,_,_=>⟨rfl,[],.nil,rfl⟩
 | [],[],_::_,ps,_,_,h=>by simp[DataW.TrodAll]at h
 | [],_::_,_,ps,_,_,h=>by simp[DataW.TrodAll]at h
 |_::_,[],_,ps,_,_,h=>by simp[DataW.TrodAll]at h
 |_::_,_::_,[],ps,_,_,h=>by simp[DataW.TrodAll]at h
 |t::ts,v::vs,d::ds,ps,hp,hv,h=>by
  obtain⟨p,q,h1,h2,_⟩:=h
  simp only[N1,E3]at hp
  obtain⟨base,hb⟩:=hv 0 t v rfl rfl
  obtain⟨x,k1,k2⟩:=jna hp.1 hb h1
  obtain⟨hl,xs,k3,k4⟩:=q6k hp.2 (fun j t' v' ht zR=>hv (j+1) t' v' (by simpa using ht) (by simpa using zR)) h2
  exact⟨by simp[hl],x::xs,.cons _ _ _ _ k1 k3,x,xs,rfl,k2,k4⟩
theorem Ext.frame {w':World}(h:Ext w w')(may:MemPlace→Prop):w.keptBut w' may:=by
 refine⟨h.os,h.output,fun i hi=>?_⟩
 rw[h.same i hi]
 split<;>simp_all
theorem Ext.sameAt {w':World}(h:Ext w w'){p:MemPlace}(hp:p.block<w.heap.size):w.sameAt w' p:=by
 cases p with
 |cell b o=>exact World.cell?_of_block (w:=w) (h.same b hp)
 |map b=>exact h.same b hp
theorem q3b {w':World}(hx:Ext w w')(hl:laidOutB P=En):∀ {ts:List TypeId} {vs:List Value} {ds:List (DataW H)} {ps:List MemPlace},ts.all (fun t=>P.readableRec t&&decide (t<P.types.size))=En→DataW.TrodAll enc P w 0 (fun _=>En) En ts vs ds ps →
  DataW.TrodAll enc P w' 0 (fun b=>decide (b<w.heap.size)) En ts vs ds ps
 | [],[],[],ps,_,h=>h
 | [],[],_::_,ps,_,h=>by simp[DataW.TrodAll]at h
 | [],_::_,_,ps,_,h=>by simp[DataW.TrodAll]at h
 |_::_,[],_,ps,_,h=>by simp[DataW.TrodAll]at h
 |_::_,_::_,[],ps,_,h=>by simp[DataW.TrodAll]at h
 |t::ts,v::vs,d::ds,ps,hr,h=>by
  obtain⟨p,q,h1,h2,h3⟩:=h
  simp only[N1,E3,decide_eq_true_eq]at hr
  have aX:∀x∈p,x.block<w.heap.size:=by obtain⟨m,hm⟩:=h1;exact DataW.trod_lt m _ _ _ hm
  exact⟨p,q,WideElems.Trod_stays hl hr.1.1 hr.1.2 h1 (fun x hm=>hx.sameAt (aX x hm)) (fun x hm=>by simpa using aX x hm),q3b hx hl hr.2 h2,h3⟩
end
def n6 (f g:XC):Prop:=∀c st r,f c st=I r→g c st=I r
section
variable {p:qt}{f g:XC}
theorem q02 (h:n6 f g){af:qd}{args:List qa}{hp:j8}{r:qa×Bool×j8}(hr:oI f af args hp=I r):oI g af args hp=I r:=by
 unfold oI at *
 cases hb:Mn args.length af.ntmps with
 |false=>simp[hb]at hr
 |true=>
  simp only[hb,cT]at hr ⊢
  split at hr
  ·rename_i st bS;rw[h _ _ _ bS];exact hr
  ·rename_i st bS;rw[h _ _ _ bS];exact hr
  ·cases hr
theorem T1 (h:n6 f g){k:Nat}{args:List qa}{hp:j8}{r:qa×Bool×j8}(hr:zg p f k args hp=I r):zg p g k args hp=I r:=by
 unfold zg at *
 split at hr
 ·exact q02 h hr
 ·exact hr
theorem T2 (h:n6 f g){k:Nat}{args:List qa}{r:qa×Bool}(hr:jz p f k args=I r):jz p g k args=I r:=by
 unfold jz at *
 split at hr
 ·exact hr
 ·split at hr
  ·rename_i v o hh hc;rw[T1 h hc];exact hr
  ·cases hr
theorem q3z (h:n6 f g){b:Nat}{args:List qa}{hp:j8}{r:qa×j8}(hr:jG f b args hp=I r):jG g b args hp=I r:=by
 unfold jG at *
 split at hr
 ·split at hr
  ·split at hr
   ·rename_i st bS
    rw[h _ _ _ bS]
    simp only[]
    split at hr
    ·rename_i l1 hZ
     cases iZ:l1.pending.isNone with
     |false=>simp[iZ]at hr
     |true=>
      simp only[iZ,cT]at hr ⊢
      split at hr
      ·rename_i x bJ gN
       rw[h _ _ _ gN]
       exact hr
      ·cases hr
    ·cases hr
   ·cases hr
  ·cases hr
 ·cases hr
theorem q1f (h:n6 f g){h0:Nat}{e:Env}{hp:j8}{md:jd}{x:qh}{l:List qh}{r:qq}(hr:iB p f h0 e hp md x l=I r):iB p g h0 e hp md x l=I r:=by
 unfold iB at *
 split at hr
 ·cases md with
  |bK=>
   simp only[]at hr ⊢
   rename_i k first captured vs _ _
   cases hb:zw 0 (first++vs++captured)with
   |false=>rw[hb]at hr;cases hr
   |true=>
    rw[hb]at hr
    simp only[cT]at hr ⊢
    split at hr
    ·rename_i v o hc;rw[T2 h hc];exact hr
    ·cases hr
  |red=>
   simp only[]at hr ⊢
   split at hr
   ·rename_i us hf
    cases hb:zw 0 us with
    |false=>rw[hb]at hr;cases hr
    |true=>
     rw[hb]at hr
     simp only[cT]at hr ⊢
     split at hr
     ·rename_i v o hc;rw[T2 h hc];exact hr
     ·cases hr
   ·cases hr
  |fa _=>
   simp only[]at hr ⊢
   rename_i k first captured vs _ _ _
   cases he:(first++vs++captured).isEmpty with
   |true=>rw[he]at hr;exact hr
   |false=>
    rw[he]at hr
    simp only[cond_false]at hr ⊢
    cases hb:zw 0 (first++vs++captured)with
    |false=>rw[hb]at hr;cases hr
    |true=>
     rw[hb]at hr
     simp only[cT]at hr ⊢
     split at hr
     ·rename_i v o hc;rw[T2 h hc];exact hr
     ·cases hr
  |shr=>
   simp only[]at hr ⊢
   split at hr
   ·rename_i v o hh hc;rw[T1 h hc];exact hr
   ·cases hr
 ·cases md with
  |shr=>
   simp only[]at hr ⊢
   split at hr
   ·rename_i v hh hc;rw[q3z h hc];exact hr
   ·cases hr
  |_=>simp at hr
 ·cases hr
theorem q5j (h:n6 f g){h0:Nat}{al:Option (List Nat)}{e:Env}{hp:j8}{op:qw}{r:qq}(hr:za p f h0 al e hp op=I r):za p g h0 al e hp op=I r:=by
 cases op with
 |call md x l=>exact q1f h hr
 |append rk sz b x y=>cases rk<;>exact hr
 |bV rk sz b z n c=>cases rk<;>exact hr
 |_=>exact hr
theorem qpz (h:n6 f g){h0:Nat}{o:qv}{st bJ:qg}(hr:iC p f h0 o st=I bJ):iC p g h0 o st=I bJ:=by
 unfold iC at *
 split at hr
 ·split at hr
  ·rename_i r hs;rw[q5j h hs];exact hr
  ·cases hr
 ·exact hr
 ·cases hr
theorem T3 (h:n6 f g){h0:Nat}:∀ {l:List qv} {st bJ:qg},fD p f h0 l st=I bJ→fD p g h0 l st=I bJ
 | [],_,_,hr=>hr
 |o::l,st,bJ,hr=>by
  simp only[fD]at hr ⊢
  split at hr
  ·rename_i s1 h1;rw[qpz h h1];exact T3 h hr
  ·cases hr
theorem qsa (h:n6 f g){na:Nat}{l:List qv}{k:Option (List Nat)}{st:qg}{r:qo×qg}(hr:l8 p f na l k st=I r):l8 p g na l k st=I r:=by
 unfold l8 at *
 split at hr
 ·rename_i s1 h1;rw[T3 h h1];exact hr
 ·cases hr
theorem qt7 (h:n6 f g){x:qh}{ps:List Nat}{a b:qf}{st:qg}{r:qo×qg}(hr:l9 p f x ps a b st=I r):l9 p g x ps a b st=I r:=by
 unfold l9 at *
 cases hn:(kn a&&kn b)with
 |false=>simp[hn]at hr
 |true=>
  simp only[hn,cT]at hr ⊢
  split at hr
  ·split at hr
   ·rename_i v o hh hc;rw[T1 h hc];exact hr
   ·cases hr
  ·cases hr
end
theorem qvi (p:qt):∀n,n6 (ye p n) (ye p (n+1))
 |0=>fun c st r h=>by simp[ye]at h
 |n+1=>by
  have ih:=qvi p n
  intro c st r h
  cases c with
  |region na l k=>simp only[ye]at h ⊢;exact qsa ih h
  |rangeFunc f ps a b=>simp only[ye]at h ⊢;exact qt7 ih h
  |seq a b=>
   rw[ye]at h ⊢
   split at h
   ·rename_i gO h1
    rw[ih _ _ _ h1];exact ih _ _ _ h
   ·rename_i bw
    rw[ih _ _ _ h]
    split
    ·rename_i gO h1;cases h1;exact absurd h (bw _)
    ·rfl
  |cond c a b=>
   rw[ye]at h ⊢
   split at h
   ·rename_i t ht
    cases t
    ·simp only[cond_false]at h ⊢;exact ih _ _ _ h
    ·simp only[cT]at h ⊢;exact ih _ _ _ h
   ·cases h
  |block id b=>
   rw[ye]at h ⊢
   split at h
   ·rename_i fp gO h1
    rw[ih _ _ _ h1];exact h
   ·rename_i bw
    rw[ih _ _ _ h]
    split
    ·rename_i fp gO h1;cases h1;exact absurd h (bw _ _)
    ·rfl
  |loop b=>
   rw[ye]at h ⊢
   split at h
   ·rename_i gO h1
    rw[ih _ _ _ h1];exact ih _ _ _ h
   ·rename_i bw
    rw[ih _ _ _ h]
    split
    ·rename_i gO h1;cases h1;exact absurd h (bw _)
    ·rfl
  |_=>exact h
theorem um (p:qt){n m:Nat}(h:n≤m):n6 (ye p n) (ye p m):=by
 induction h with
 |refl=>exact fun _ _ _ h=>h
 |step _ ih=>exact fun c st r hr=>qvi p _ c st r (ih c st r hr)
open Classical in
noncomputable def X (p:qt):XC:=fun c st=>if h:∃r n,ye p n c st=I r then I (Classical.choose h)else Gk
theorem ez {p:qt}{c:qf}{st:qg}{r:qo×qg}:X p c st=I r↔∃n,ye p n c st=I r:=by
 unfold X
 constructor
 ·intro h
  split at h
  ·rename_i hh
   cases h
   exact Classical.choose_spec hh
  ·cases h
 ·rintro ⟨n,hn⟩
  have hh:∃r n,ye p n c st=I r:=⟨r,n,hn⟩
  rw[dif_pos hh]
  obtain⟨m,hm⟩:=Classical.choose_spec hh
  have h1:=um p (Gn n m) _ _ _ hn
  have h2:=um p (Gl n m) _ _ _ hm
  rw[h1]at h2
  exact h2.symm
theorem oU {p:qt}(n:Nat):n6 (ye p n) (X p):=fun _ _ _ h=>ez.2 ⟨n,h⟩
section
variable {p:qt}
theorem q3y {af:qd}{args:List qa}{hp:j8}{r:qa×Bool×j8}(hr:oI (X p) af args hp=I r):∃n,oI (ye p n) af args hp=I r:=by
 have hr0:=hr
 unfold oI at hr
 cases hb:Mn args.length af.ntmps with
 |false=>simp[hb]at hr
 |true=>
  simp only[hb,cT]at hr
  have key:∀ {r'},X p af.body ⟨nS 0 args,hp⟩=I r'→∃n,oI (ye p n) af args hp=I r:=by
   intro r' h
   obtain⟨n,hn⟩:=ez.1 h
   refine⟨n,?_⟩
   unfold oI
   rw[hb,hn]
   rw[h]at hr
   exact hr
  split at hr
  ·rename_i st bS;exact key bS
  ·rename_i st bS;exact key bS
  ·cases hr
theorem T4 {k:Nat}{args:List qa}{hp:j8}{r:qa×Bool×j8}(hr:zg p (X p) k args hp=I r):∃n,zg p (ye p n) k args hp=I r:=by
 unfold zg at *
 cases h:p.bL k with
 |none=>rw[h]at hr;exact⟨0,hr⟩
 |some f=>rw[h]at hr;exact q3y hr
theorem MW {k:Nat}{args:List qa}{r:qa×Bool}(hr:jz p (X p) k args=I r):∃n,jz p (ye p n) k args=I r:=by
 unfold jz at *
 cases h:p.cm k with
 |some f=>rw[h]at hr;exact⟨0,hr⟩
 |none=>
  rw[h]at hr
  simp only[]at hr ⊢
  split at hr
  ·rename_i v o hh hc
   obtain⟨n,hn⟩:=T4 hc
   exact⟨n,by rw[hn];exact hr⟩
  ·cases hr
theorem q5c {b:Nat}{args:List qa}{hp:j8}{r:qa×j8}(hr:jG (X p) b args hp=I r):∃n,jG (ye p n) b args hp=I r:=by
 unfold jG at hr
 split at hr
 ·rename_i l hl
  split at hr
  ·rename_i e vo hse
   split at hr
   ·rename_i st bS
    split at hr
    ·rename_i l1 hZ
     cases iZ:l1.pending.isNone with
     |false=>simp[iZ]at hr
     |true=>
      simp only[iZ,cT]at hr
      split at hr
      ·rename_i x bJ gN
       obtain⟨n,hn⟩:=ez.1 bS
       obtain⟨m,hm⟩:=ez.1 gN
       refine⟨max n m,?_⟩
       have h1:=um p (Gn n m) _ _ _ hn
       have h2:=um p (Gl n m) _ _ _ hm
       simp only[jG,hl,vo,hse,h1,hZ,iZ,cT,h2]
       exact hr
      ·cases hr
    ·cases hr
   ·cases hr
  ·cases hr
 ·cases hr
theorem q2g {h0:Nat}{e:Env}{hp:j8}{md:jd}{x:qh}{l:List qh}{r:qq}(hr:iB p (X p) h0 e hp md x l=I r):∃n,iB p (ye p n) h0 e hp md x l=I r:=by
 unfold iB at hr
 split at hr
 ·rename_i k first captured vs e1 e2
  cases md with
  |bK=>
   simp only[]at hr
   cases hb:zw 0 (first++vs++captured)with
   |false=>rw[hb]at hr;cases hr
   |true=>
    rw[hb]at hr
    simp only[cT]at hr
    split at hr
    ·rename_i v o hc
     obtain⟨n,hn⟩:=MW hc
     refine⟨n,?_⟩
     simp only[iB,e1,e2,hn]
     rw[hb]
     exact hr
    ·cases hr
  |red=>
   simp only[]at hr
   split at hr
   ·rename_i us hf
    cases hb:zw 0 us with
    |false=>rw[hb]at hr;cases hr
    |true=>
     rw[hb]at hr
     simp only[cT]at hr
     split at hr
     ·rename_i v o hc
      obtain⟨n,hn⟩:=MW hc
      refine⟨n,?_⟩
      simp only[iB,e1,e2,hf,hn]
      rw[hb]
      exact hr
     ·cases hr
   ·cases hr
  |fa _=>
   simp only[]at hr
   cases he:(first++vs++captured).isEmpty with
   |true=>exact⟨0,by simp only[iB,e1,e2,he];rw[he]at hr;exact hr⟩
   |false=>
    rw[he]at hr
    simp only[cond_false]at hr
    cases hb:zw 0 (first++vs++captured)with
    |false=>rw[hb]at hr;cases hr
    |true=>
     rw[hb]at hr
     simp only[cT]at hr
     split at hr
     ·rename_i v o hc
      obtain⟨n,hn⟩:=MW hc
      refine⟨n,?_⟩
      simp only[iB,e1,e2,hn]
      rw[he,hb]
      exact hr
     ·cases hr
  |shr=>
   simp only[]at hr
   split at hr
   ·rename_i v o hh hc
    obtain⟨n,hn⟩:=T4 hc
    refine⟨n,?_⟩
    simp only[iB,e1,e2,hn]
    exact hr
   ·cases hr
 ·rename_i b vs e1 e2
  cases md with
  |shr=>
   simp only[]at hr
   split at hr
   ·rename_i v hh hc
    obtain⟨n,hn⟩:=q5c hc
    refine⟨n,?_⟩
    simp only[iB,e1,e2,hn]
    exact hr
   ·cases hr
  |_=>simp at hr
 ·cases hr
theorem jab {h0:Nat}{al:Option (List Nat)}{e:Env}{hp:j8}{op:qw}{r:qq}(hr:za p (X p) h0 al e hp op=I r):∃n,za p (ye p n) h0 al e hp op=I r:=by
 cases op with
 |call md x l=>exact q2g hr
 |append rk sz b x y=>cases rk<;>exact⟨0,hr⟩
 |bV rk sz b z n c=>cases rk<;>exact⟨0,hr⟩
 |_=>exact⟨0,hr⟩
theorem q29 {h0:Nat}{o:qv}{st bJ:qg}(hr:iC p (X p) h0 o st=I bJ):∃n,iC p (ye p n) h0 o st=I bJ:=by
 unfold iC at *
 cases hg:l7 st.env o.guard with
 |none=>simp[hg]at hr
 |some b=>
  rw[hg]at hr
  cases b with
  |false=>exact⟨0,hr⟩
  |true=>
   simp only[]at hr ⊢
   split at hr
   ·rename_i r hs
    obtain⟨n,hn⟩:=jab hs
    exact⟨n,by rw[hn];exact hr⟩
   ·cases hr
theorem q2o {h0:Nat}:∀ {l:List qv} {st bJ:qg},fD p (X p) h0 l st=I bJ→∃n,fD p (ye p n) h0 l st=I bJ
 | [],_,_,hr=>⟨0,hr⟩
 |o::l,st,bJ,hr=>by
  simp only[fD]at hr
  split at hr
  ·rename_i s1 h1
   obtain⟨n,hn⟩:=q29 h1
   obtain⟨m,hm⟩:=q2o hr
   refine⟨max n m,?_⟩
   simp only[fD]
   rw[qpz (um p (Gn n m)) hn]
   exact T3 (um p (Gl n m)) hm
  ·cases hr
theorem q56 {na:Nat}{l:List qv}{k:Option (List Nat)}{st:qg}{r:qo×qg}(hr:l8 p (X p) na l k st=I r):∃n,l8 p (ye p n) na l k st=I r:=by
 unfold l8 at hr
 split at hr
 ·rename_i s1 h1
  obtain⟨n,hn⟩:=q2o h1
  exact⟨n,by unfold l8;rw[hn];exact hr⟩
 ·cases hr
theorem jaz {x:qh}{ps:List Nat}{a b:qf}{st:qg}{r:qo×qg}(hr:l9 p (X p) x ps a b st=I r):∃n,l9 p (ye p n) x ps a b st=I r:=by
 unfold l9 at hr
 cases hn:(kn a&&kn b)with
 |false=>simp[hn]at hr
 |true=>
  simp only[hn,cT]at hr
  split at hr
  ·rename_i k first captured gB
   split at hr
   ·rename_i v o hh hc
    obtain⟨n,jP⟩:=T4 hc
    refine⟨n,?_⟩
    unfold l9
    rw[hn,gB]
    simp only[cT]
    rw[jP]
    exact hr
   ·cases hr
  ·cases hr
theorem zZ {α:Type}{x y:Option α}(h1:∀r,x=I r→y=I r)(h2:∀r,y=I r→x=I r):x=y:=by
 cases x with
 |none=>
  cases y with
  |none=>rfl
  |some r=>exact(h2 r rfl)
 |some r=>exact(h1 r rfl).symm
theorem jrs {st:qg}:X p .skip st=I (.normal,st):=ez.2 ⟨1,rfl⟩
theorem juj {id:Nat}{st:qg}:X p (.exit id) st=I (.exit id,st):=ez.2 ⟨1,rfl⟩
theorem j32 {st:qg}:X p .ret st=I (.ret,st):=ez.2 ⟨1,rfl⟩
theorem jir {na:Nat}{l:List qv}{k:Option (List Nat)}{st:qg}:X p (.region na l k) st=l8 p (X p) na l k st:=by
 refine zZ (fun r h=>?_) (fun r h=>?_)
 ·obtain⟨n,hn⟩:=ez.1 h
  cases n with
  |zero=>simp[ye]at hn
  |succ n=>simp only[ye]at hn;exact qsa (oU n) hn
 ·obtain⟨n,hn⟩:=q56 h
  exact ez.2 ⟨n+1,by simp only[ye];exact hn⟩
theorem T5 {x:qh}{ps:List Nat}{a b:qf}{st:qg}:X p (.rangeFunc x ps a b) st=l9 p (X p) x ps a b st:=by
 refine zZ (fun r h=>?_) (fun r h=>?_)
 ·obtain⟨n,hn⟩:=ez.1 h
  cases n with
  |zero=>simp[ye]at hn
  |succ n=>simp only[ye]at hn;exact qt7 (oU n) hn
 ·obtain⟨n,hn⟩:=jaz h
  exact ez.2 ⟨n+1,by simp only[ye];exact hn⟩
theorem jz1 {a b:qf}{st:qg}:X p (.seq a b) st=match X p a st with
  |some (.normal,bJ)=>X p b bJ
  |r=>r:=by
 refine zZ (fun r h=>?_) (fun r h=>?_)
 ·obtain⟨n,hn⟩:=ez.1 h
  cases n with
  |zero=>simp[ye]at hn
  |succ n=>
   rw[ye]at hn
   split at hn
   ·rename_i gO h1;rw[oU n _ _ _ h1];exact oU n _ _ _ hn
   ·rename_i bw
    rw[oU n _ _ _ hn]
    split
    ·rename_i gO h1;cases h1;exact absurd hn (bw _)
    ·rfl
 ·split at h
  ·rename_i gO h1
   obtain⟨n,hn⟩:=ez.1 h1
   obtain⟨m,hm⟩:=ez.1 h
   refine ez.2 ⟨max n m+1,?_⟩
   rw[ye,um p (Gn n m) _ _ _ hn]
   exact um p (Gl n m) _ _ _ hm
  ·rename_i bw
   obtain⟨n,hn⟩:=ez.1 h
   refine ez.2 ⟨n+1,?_⟩
   rw[ye,hn]
   split
   ·rename_i gO h1;cases h1;exact absurd h (bw _)
   ·rfl
theorem jsg {c:qh}{a b:qf}{st:qg}:X p (.cond c a b) st=match zd st.env c with
  |some (.bool t)=>bif t then X p a st else X p b st
  |_=>Gk:=by
 refine zZ (fun r h=>?_) (fun r h=>?_)
 ·obtain⟨n,hn⟩:=ez.1 h
  cases n with
  |zero=>simp[ye]at hn
  |succ n=>
   rw[ye]at hn
   split at hn
   ·rename_i t ht
    rw[ht]
    cases t
    ·simp only[cond_false]at hn ⊢;exact oU n _ _ _ hn
    ·simp only[cT]at hn ⊢;exact oU n _ _ _ hn
   ·cases hn
 ·split at h
  ·rename_i t ht
   cases t
   ·simp only[cond_false]at h
    obtain⟨n,hn⟩:=ez.1 h
    exact ez.2 ⟨n+1,by rw[ye,ht];exact hn⟩
   ·simp only[cT]at h
    obtain⟨n,hn⟩:=ez.1 h
    exact ez.2 ⟨n+1,by rw[ye,ht];exact hn⟩
  ·cases h
theorem jmm {id:Nat}{b:qf}{st:qg}:X p (.block id b) st=match X p b st with
  |some (.exit fp,bJ)=>bif G2 fp id then I (.normal,bJ)else I (.exit fp,bJ)
  |r=>r:=by
 refine zZ (fun r h=>?_) (fun r h=>?_)
 ·obtain⟨n,hn⟩:=ez.1 h
  cases n with
  |zero=>simp[ye]at hn
  |succ n=>
   rw[ye]at hn
   split at hn
   ·rename_i fp gO h1;rw[oU n _ _ _ h1];exact hn
   ·rename_i bw
    rw[oU n _ _ _ hn]
    split
    ·rename_i fp gO h1;cases h1;exact absurd hn (bw _ _)
    ·rfl
 ·split at h
  ·rename_i fp gO h1
   obtain⟨n,hn⟩:=ez.1 h1
   exact ez.2 ⟨n+1,by rw[ye,hn];exact h⟩
  ·rename_i bw
   obtain⟨n,hn⟩:=ez.1 h
   refine ez.2 ⟨n+1,?_⟩
   rw[ye,hn]
   split
   ·rename_i fp gO h1;cases h1;exact absurd h (bw _ _)
   ·rfl
theorem jr5 {b:qf}{st:qg}:X p (.loop b) st=match X p b st with
  |some (.normal,bJ)=>X p (.loop b) (gc st.heap.length bJ)
  |r=>r:=by
 refine zZ (fun r h=>?_) (fun r h=>?_)
 ·obtain⟨n,hn⟩:=ez.1 h
  cases n with
  |zero=>simp[ye]at hn
  |succ n=>
   rw[ye]at hn
   split at hn
   ·rename_i gO h1;rw[oU n _ _ _ h1];exact oU n _ _ _ hn
   ·rename_i bw
    rw[oU n _ _ _ hn]
    split
    ·rename_i gO h1;cases h1;exact absurd hn (bw _)
    ·rfl
 ·split at h
  ·rename_i gO h1
   obtain⟨n,hn⟩:=ez.1 h1
   obtain⟨m,hm⟩:=ez.1 h
   refine ez.2 ⟨max n m+1,?_⟩
   rw[ye,um p (Gn n m) _ _ _ hn]
   exact um p (Gl n m) _ _ _ hm
  ·rename_i bw
   obtain⟨n,hn⟩:=ez.1 h
   refine ez.2 ⟨n+1,?_⟩
   rw[ye,hn]
   split
   ·rename_i gO h1;cases h1;exact absurd h (bw _)
   ·rfl
theorem jql {sz:Nat}{st:qg}:X p (.grow sz) st=match yd 0 st.env,yd 1 st.env with
   |some (.list En _ _,_),I (.int .i64 (.ofNat m),_)=>bif Nh 0 m&&Mn m 1073741824 then I (.normal,{ st with env:=[(0,.list E6 sz [],En)] })else Gk
   |_,_=>Gk:=by
 refine zZ (fun r h=>?_) (fun r h=>?_)
 ·obtain⟨n,hn⟩:=ez.1 h
  cases n with
  |zero=>simp[ye]at hn
  |succ n=>simp only[ye]at hn;exact hn
 ·exact ez.2 ⟨1,by simp only[ye];exact h⟩
theorem q11 {P:Program}(ec:qx P p){k:Nat}{args:List qa}{v:qa}{ow:Bool}(h:jz p (X p) k args=I (v,ow))(hb:zw 0 args=En):IsoCall P k args v ow:=by
 obtain⟨n,hn⟩:=MW h
 exact q6s ec hn hb
end
inductive jl where
 |code (c:qf)
 |seq (a b:jl)
 |cond (c:qh) (a b:jl)
 |block (id:Nat) (b:jl)
 |loop (b:jl)
 |zK (s:Nat) (c:jl)
 |shut (s sz:Nat) (c:jl)
def jl.erase:jl→qf
 | .code c=>c
 | .seq a b=>.seq a.erase b.erase
 | .cond c a b=>.cond c a.erase b.erase
 | .block id b=>.block id b.erase
 | .loop b=>.loop b.erase
 | .zK _ c=>c.erase
 | .shut _ _ c=>c.erase
def T6 (P:Program)(w0:World)(K:Nat→Nat→Option Value)(nt:Nat)(st:qg)(a:Act)(w:World):Prop:=
 a.tmps.size=nt∧∃C' ω',Marks C' w0.heap.size a.defers∧av P C' ω' w0 (.bK K) st.heap w∧aj C' ω' w w0.heap.size st.env a.tmps
theorem T6.gc {P:Program}{w0:World}{K:Nat→Nat→Option Value}{nt n:Nat}{st:qg}{a:Act}{w:World}(h:T6 P w0 K nt st a w):T6 P w0 K nt (Abs.gc n st) a w:=by
 obtain⟨h1,C',ω',h2,h3,h4⟩:=h
 unfold Abs.gc
 cases hb:Mn st.heap.length n with
 |true=>exact⟨h1,C',ω',h2,h3,h4⟩
 |false=>
  simp only[cond_false]
  cases lm:(l6 n st.env&&kh n (st.heap.take n))with
  |false=>exact⟨h1,C',ω',h2,h3,h4⟩
  |true=>
   simp only[cT]
   simp only[E3]at lm
   have hn:n≤st.heap.length:=by
    rcases Nat.lt_or_ge n st.heap.length with h|h
    ·omega
    ·rw[Nat.ble_eq_true_of_le h]at hb;cases hb
   exact⟨h1,C'.cut n,ω',⟨h2.choose,h2.choose_spec.1,h2.choose_spec.2.1,h2.choose_spec.2.2⟩,h3.gc hn lm.2 (fun b r h=>by cases h),h4.cut lm.1⟩
section
variable {P:Program}
theorem Tabs.table {w:World}(h:Tabs P w){g:Nat}(hg:P.globalNamed nv=I g):Lib.TabIs P w nv .u64 Lib.pow10Tab:=(h g (.inl hg)).2.1 hg
theorem Tabs.length {w:World}(h:Tabs P w){g:Nat}(hg:P.globalNamed wF=I g):∃m,w.cell? ⟨g,0,Gk⟩=I (.int .i64 m):=(h g (.inr (.inl hg))).2.2.1 hg
theorem F9 {k:Nat}{args:List qa}{v:qa}(h:∀(K:Nat→Nat→Option Value) (w:World) (vs:List Value),Tabs P w→(∀r o u,K r o=I u→w.cell? ⟨r,o,Gk⟩=I u)→aM (.bK K) args vs →
  ∃u,bD (.bK K) v u∧Calls P k ⟨vs⟩ w fun e w'=>e=.returned u∧Ext w w'):IsoCall P k args v E6:=by
 intro K w vs ht h1 h2 hr
 obtain⟨u,hu,hc⟩:=h K w vs ht h1 hr
 refine callsIn_wide.2 (hc.mono ?_)
 rintro e w' ⟨rfl,hx⟩
 exact⟨u,K,rfl,hx,fun _ _ _ h=>h,fun _ _ _=>rfl,fun r o x hk=>hx.cell (h1 r o x hk),h2,hu,fun h=>by cases h⟩
theorem q64 {C:ay}{r:Nat}:∀ {xs:List qa} {us:List Value} {o:Nat},aM C xs us→(∀x∈xs,x.flat=[x])→(∀(j:Nat) u,us[j]?=I u→C.K r (o+j)=I u)→aY C r 1 xs o
 | [],_,o,_,_,_=>.fe _ _ _
 |x::xs,us,o,h,hf,hk=>by
  cases h with
  |cons _ _ u us hx hr=>
   have Da:=hf x (Hd ..)
   refine .cY _ _ _ _ _ (by rw[Da];rfl) ?_ (q64 hr (fun y hy=>hf y (Hb _ hy)) fun j u hj=>?_)
   ·rw[Da]
    exact .dc _ _ _ _ u (by have:=hk 0 u rfl;simpa using this) hx (.gI _ _)
   ·have:=hk (j+1) u (by simpa using hj)
    rw[show o+1+j=o+(j+1) by omega]
    exact this
theorem jd0 {k:Nat}{args:List qa}{xs:List qa}{us:List Value}{t:TypeId}(hf:∀x∈xs,x.flat=[x])(gy:∀K,aM (.bK K) xs us)(h1u:∀u∈us,u.oneCell'=En)
  (h:∀(K:Nat→Nat→Option Value) (w:World) (vs:List Value),Tabs P w→(∀r o u,K r o=I u→w.cell? ⟨r,o,Gk⟩=I u)→aM (.bK K) args vs →
  Calls P k ⟨vs⟩ w fun e w'=>e=.returned (.slice (I ⟨w.heap.size,0,Gk⟩) xs.length xs.length)∧w'=w.alloc (.cells us.toArray t)):IsoCall P k args (.list E6 1 xs) E6:=by
 intro K w vs ht h1 h2 hr
 refine callsIn_wide.2 ((h K w vs ht h1 hr).mono ?_)
 rintro e w' ⟨rfl,rfl⟩
 have hx:Ext w (w.alloc (.cells us.toArray t)):=Ext.alloc w _ (fun c t fr h=>by cases h;rfl)
 have FH:∀o u,K w.heap.size o=I u→False:=fun o u hk=>by
  have:=h1 _ _ _ hk
  simp only[World.cell?,Array.getElem?_eq_none (Nat.le_refl _)]at this
  cases this
 refine⟨_,fun r o=>if r=w.heap.size then us[o]? else K r o,rfl,hx,?_,?_,?_,?_,?_,fun h=>by cases h⟩
 ·intro r o x hk
  have bw:r≠w.heap.size:=fun e=>FH o x (e▸hk)
  simp only[if_neg bw];exact hk
 ·intro r o aX
  have bw:r≠w.heap.size:=by omega
  simp only[if_neg bw]
 ·intro r o x hk
  simp only[]at hk
  split at hk
  ·next hr=>
   subst hr
   have hg:(w.alloc (.cells us.toArray t)).heap[w.heap.size]?=I (.cells us.toArray t):=by rw[u0,if_pos rfl]
   simp only[World.cell?]
   rw[hg]
   simpa using hk
  ·exact hx.cell (h1 r o x hk)
 ·intro r o x hk
  simp only[]at hk
  split at hk
  ·exact h1u x (Gq hk)
  ·exact h2 r o x hk
 ·refine .list _ _ _ _ _ (Nat.le_refl _) (q64 (gy _) hf fun j u hj=>?_)
  show(if w.heap.size=w.heap.size then us[0+j]? else K w.heap.size (0+j))=I u
  rw[if_pos rfl,Nat.zero_add];exact hj
theorem IsoCall.shr {k:Nat}{args:List qa}{v:qa}{ow:Bool}(h:IsoCall P k args v ow)(hb:zw 0 args=En)(hp:lM v=En)(ec:j8):zI P k args ec v E6 ec:=by
 intro C ω w vs hr m
 have iW:aM (.bK C.K) args vs:=qp.shift (C:=C) (C':=.bK C.K) 0 (fun _ _ _ h=>h) (fun b r aX=>by omega) hr hb
 refine CallsIn.mono (h C.K w vs m.tabs m.know m.cQ iW) ?_
 rintro e w' ⟨u,K',rfl,q1,q2,q3,q4,q5,q6,_⟩
 refine⟨u,{ C with K:=K' },ω,rfl,⟨q2,fun _ _ h=>h,rfl,fun _ h=>h,fun _ h=>h⟩,m.bK q1 q2 q3 q4 q5,?_,fun h=>by cases h⟩
 exact qp.shift (C:=.bK K') (C':={ C with K:=K' }) 0 (fun _ _ _ h=>h) (fun b r aX=>by omega) q6 hp
end
open Go
def Du:List UInt8→List UInt8→Bool
 | [],[]=>En
 |a::l,b::m=>bif G2 a.toNat b.toNat then Du l m else E6
 |_,_=>E6
theorem qp0:∀ {l m:List UInt8},Du l m=En→l=m
 | [],[],_=>rfl
 | [],_::_,h=>by simp[Du]at h
 |_::_,[],h=>by simp[Du]at h
 |a::l,b::m,h=>by
  simp only[Du,E4]at h
  split at h
  ·next hb=>rw[UInt8.toNat_inj.1 (E1 hb),qp0 h]
  ·exact absurd h (by simp)
def MX:Int→Int→Bool
 | .ofNat a,.ofNat b=>G2 a b
 | .negSucc a,.negSucc b=>G2 a b
 |_,_=>E6
theorem q5g:∀ {a b:Int},MX a b=En→a=b
 | .ofNat _,.ofNat _,h=>by rw[E1 h]
 | .negSucc _,.negSucc _,h=>by rw[E1 h]
 | .ofNat _,.negSucc _,h=>by simp[MX]at h
 | .negSucc _,.ofNat _,h=>by simp[MX]at h
mutual
def iE:qa→qa→Bool
 | .bool a,.bool b=>a == b
 | .int k a,.int k' b=>bif decide (k=k')then MX a b else E6
 | .str a,.str b=>Du a b
 | .list a n xs,.list b m ys=>bif a == b then bif G2 n m then uo xs ys else E6 else E6
 | .agg xs,.agg ys=>uo xs ys
 | .aC xs,.aC ys=>uo xs ys
 |_,_=>E6
def uo:List qa→List qa→Bool
 | [],[]=>En
 |a::l,b::m=>bif iE a b then uo l m else E6
 |_,_=>E6
end
mutual
theorem q0w:∀ {a b:qa},iE a b=En→a=b:=by
 intro a b h
 match a,b with
 | .bool _,.bool _=>simp only[iE,beq_iff_eq]at h;rw[h]
 | .int k a,.int k' b=>
  simp only[iE,E4,decide_eq_true_eq]at h
  split at h
  ·next hk=>rw[hk,q5g h]
  ·exact absurd h (by simp)
 | .str _,.str _=>simp only[iE]at h;rw[qp0 h]
 | .list a n xs,.list b m ys=>
  simp only[iE,E4,beq_iff_eq]at h
  split at h
  ·next h1=>
   split at h
   ·next h2=>rw[h1,E1 h2,Dv h]
   ·exact absurd h (by simp)
  ·exact absurd h (by simp)
 | .agg _,.agg _=>simp only[iE]at h;rw[Dv h]
 | .aC _,.aC _=>simp only[iE]at h;rw[Dv h]
 | .bool _,.int .. | .bool _,.str _ | .bool _,.list .. | .bool _,.agg _ | .bool _,.aC _=>simp[iE]at h
 | .int ..,.bool _ | .int ..,.str _ | .int ..,.list .. | .int ..,.agg _ | .int ..,.aC _=>simp[iE]at h
 | .str _,.bool _ | .str _,.int .. | .str _,.list .. | .str _,.agg _ | .str _,.aC _=>simp[iE]at h
 | .list ..,.bool _ | .list ..,.int .. | .list ..,.str _ | .list ..,.agg _ | .list ..,.aC _=>simp[iE]at h
 | .agg _,.bool _ | .agg _,.int .. | .agg _,.str _ | .agg _,.list .. | .agg _,.aC _=>simp[iE]at h
 | .aC _,.bool _ | .aC _,.int .. | .aC _,.str _ | .aC _,.list .. | .aC _,.agg _=>simp[iE]at h
 | .ms ..,_ | .ptr ..,_ | .ah _,_ | .cE _,_ | .bN,_ | .map _,_ | .bM,_ | .fn ..,_ | .bX,_ | .undef,_ | .any,_ | .ak ..,_ | .dq ..,_=>simp[iE]at h
 | .bool _,.ms .. | .bool _,.ptr .. | .bool _,.ah _ | .bool _,.cE _ | .bool _,.bN | .bool _,.map _ | .bool _,.bM | .bool _,.fn .. | .bool _,.bX | .bool _,.undef | .bool _,.ak .. | .bool _,.dq ..=>simp[iE]at h
 | .int ..,.ms .. | .int ..,.ptr .. | .int ..,.ah _ | .int ..,.cE _ | .int ..,.bN | .int ..,.map _ | .int ..,.bM | .int ..,.fn .. | .int ..,.bX | .int ..,.undef | .int ..,.ak .. | .int ..,.dq ..=>simp[iE]at h
 | .str ..,.ms .. | .str ..,.ptr .. | .str ..,.ah _ | .str ..,.cE _ | .str ..,.bN | .str ..,.map _ | .str ..,.bM | .str ..,.fn .. | .str ..,.bX | .str ..,.undef | .str ..,.ak .. | .str ..,.dq ..=>simp[iE]at h
 | .list ..,.ms .. | .list ..,.ptr .. | .list ..,.ah _ | .list ..,.cE _ | .list ..,.bN | .list ..,.map _ | .list ..,.bM | .list ..,.fn .. | .list ..,.bX | .list ..,.undef | .list ..,.ak .. | .list ..,.dq ..=>simp[iE]at h
 | .agg ..,.ms .. | .agg ..,.ptr .. | .agg ..,.ah _ | .agg ..,.cE _ | .agg ..,.bN | .agg ..,.map _ | .agg ..,.bM | .agg ..,.fn .. | .agg ..,.bX | .agg ..,.undef | .agg ..,.ak .. | .agg ..,.dq ..=>simp[iE]at h
 | .aC ..,.ms .. | .aC ..,.ptr .. | .aC ..,.ah _ | .aC ..,.cE _ | .aC ..,.bN | .aC ..,.map _ | .aC ..,.bM | .aC ..,.fn .. | .aC ..,.bX | .aC ..,.undef | .aC ..,.ak .. | .aC ..,.dq ..=>simp[iE]at h
theorem Dv:∀ {l m:List qa},uo l m=En→l=m:=by
 intro l m h
 match l,m with
 | [],[]=>rfl
 | [],_::_=>simp[uo]at h
 |_::_,[]=>simp[uo]at h
 |a::l,b::m=>
  simp only[uo,E4]at h
  split at h
  ·next h1=>rw[q0w h1,Dv h]
  ·exact absurd h (by simp)
end
abbrev Row:=List qa×qa×Bool
def yH (args:List qa):List Row→Option (qa×Bool)
 | []=>Gk
 |r::l=>bif uo r.1 args then I r.2 else yH args l
theorem LU {args:List qa}{x:qa×Bool}:∀ {l:List Row},yH args l=I x→(args,x)∈l
 | [],h=>by simp[yH]at h
 |r::l,h=>by
  simp only[yH,E4]at h
  split at h
  ·next hb=>
   simp only[I.injEq]at h
   rw[←Dv hb,←h]
   exact Hd ..
  ·exact Hb _ (LU h)
def q4p (tab:Nat→Option (List Row)):uX:=fun k=>(tab k).map fun l args=>yH args l
def LS (P:Program)(tab:Nat→Option (List Row)):Prop:=
 ∀k l,tab k=I l→∀r∈l,IsoCall P k r.1 r.2.1 r.2.2
def wu:List (Nat×List Row)→Nat→Option (List Row)
 | [],_=>Gk
 |(k,l)::t,n=>bif G2 k n then I l else wu t n
def T7 (P:Program)(k:Nat):List Row→Prop
 | []=>True
 |r::l=>IsoCall P k r.1 r.2.1 r.2.2∧T7 P k l
def ja1 (P:Program):List (Nat×List Row)→Prop
 | []=>True
 |(k,l)::t=>T7 P k l∧ja1 P t
theorem q2l {P:Program}{k:Nat}:∀ {l:List Row},T7 P k l→∀r∈l,IsoCall P k r.1 r.2.1 r.2.2
 |r::l,h,x,hx=>by
  cases hx with
  |head=>exact h.1
  |tail _ hx=>exact q2l h.2 x hx
theorem RP {P:Program}:∀ {t:List (Nat×List Row)},ja1 P t→LS P (wu t)
 |(j,m)::t,h,k,l,hk=>by
  simp only[wu,E4]at hk
  split at hk
  ·next hb=>
   rw[E1 hb]at h
   simp only[I.injEq]at hk
   subst hk
   exact q2l h.1
  ·exact RP h.2 k l hk
theorem jxe {P:Program}{t:jc}{tab:Nat→Option (List Row)}{M:LX}(h:qx P (t.prog (fun _=>Gk) M))(ht:LS P tab)(he:∀k l,tab k=I l→Enters P k):qx P (t.prog (q4p tab) M) where
 fn:=h.fn
 gF:=by
  intro k f hf
  simp only[jc.prog,q4p,Option.map_eq_some_iff]at hf
  obtain⟨l,hl,rfl⟩:=hf
  refine⟨he k l hl,fun args v o hv _ _=>ht k l hl _ (LU hv)⟩
 mixed:=h.mixed
 maps:=h.maps
theorem qw9 {P:Program}{p:qt}(h:qx P p){n k b:Nat}{ow:Bool}{h1:j8}{es:List (qa×qa)}(hr:zg p (hM p n) k [] []=I (.map b,ow,h1))(hb:h1[b]?=I (.map es))(he:tQ 0 es=En):Enters P k∧S5 P k es:=
 q9p h (b9.FV (ML h n).1) (by rw[←MR];exact hr) hb he
theorem zb {P:Program}{p:qt}(h:qx P p){n k:Nat}{args:List qa}{v:qa}{o:Bool}(hr:jz p (hM p n) k args=some (v,o))(hb:zw 0 args=true:=by rfl):IsoCall P k args v o:=
 q6s h (jby hr) hb
end Go.Abs
