/- The executor for the kernel's run. -/
import Derived.Test.YtfopaakmgogpiaaGreatDoorAbsG
import Derived.WalkKit
import Derived.ProofKit
import Derived.OpenShut
import Derived.ShutString
import Derived.ChangeOld
import Derived.Below
import Derived.Carry
import Derived.KernelRfl
import Derived.CallsIn
set_option linter.unusedVariables false
set_option linter.unusedSimpArgs false
open Option renaming some→I,none→E7,bind_some→Ma
open Bool renaming true→Ef,and_eq_true→E3,cond_eq_ite→E4,false→E6
open Nat renaming eq_of_beq_eq_true→En,le_max_right→E9,le_max_left→Gb,beq→Ge,succ_mul→Hb,ble→If,blt→Mn
open List renaming getElem?_range→E0,range→Ga,length_eq_zero_iff→Gc,mem_of_getElem?→Gd,getElem?_eq_some_iff→Gy,mem_cons_of_mem→Gz,mem_cons_self→Ha,flatten_cons→Hh,length_range→Hq,getElem?_map→H6,mem_append→Mi,drop_drop→Mj,map_cons→Mt,all_cons→Mu
namespace Go.Abs
def hJ {α:Type}(n:Nat)(f:Nat→α):α:=match n with
 |0=>f 0
 |m+1=>f (Nat.succ m)
def TS {α:Type}(n:Int)(f:Int→α):α:=match n with
 | .ofNat a=>hJ a fun a=>f (.ofNat a)
 | .negSucc a=>hJ a fun a=>f (.negSucc a)
def Gf {α:Type}(b:Bool)(f:Bool→α):α:=match b with
 |true=>f Ef
 |false=>f E6
def q0w {α:Type}(k:IntKind)(f:IntKind→α):α:=match k with
 | .i8=>f .i8 | .i16=>f .i16 | .i32=>f .i32 | .i64=>f .i64 | .u8=>f .u8 | .u16=>f .u16 | .u32=>f .u32 | .u64=>f .u64
def Gg {α:Type}:List UInt8→(List UInt8→α)→α
 | [],f=>f []
 |c::s,f=>Gg s fun s=>f (c::s)
def TT {α:Type}(g:Fn)(f:Fn→α):α:=match g with
 | .func k=>hJ k fun k=>f (.func k)
 | .yield k=>hJ k fun k=>f (.yield k)
 |g=>f g
mutual
def gD {α:Type}:qa→(qa→α)→α
 | .bool b,f=>Gf b fun b=>f (.bool b)
 | .int k n,f=>q0w k fun k=>TS n fun n=>f (.int k n)
 | .str s,f=>Gg s fun s=>f (.str s)
 | .list b sz xs,f=>Gf b fun b=>hJ sz fun sz=>vC xs fun xs=>f (.list b sz xs)
 | .ms b o l,f=>hJ b fun b=>hJ o fun o=>hJ l fun l=>f (.ms b o l)
 | .ptr b o,f=>hJ b fun b=>hJ o fun o=>f (.ptr b o)
 | .ah v,f=>gD v fun v=>f (.ah v)
 | .cE n,f=>hJ n fun n=>f (.cE n)
 | .bO,f=>f .bO
 | .map b,f=>hJ b fun b=>f (.map b)
 | .bN,f=>f .bN
 | .fn g a c,f=>TT g fun g=>vC a fun a=>vC c fun c=>f (.fn g a c)
 | .bY,f=>f .bY
 | .agg cs,f=>vC cs fun cs=>f (.agg cs)
 | .aB cs,f=>vC cs fun cs=>f (.aB cs)
 | .undef,f=>f .undef
 | .any,f=>f .any
 | .ak b bz len,f=>hJ b fun b=>hJ bz fun bz=>hJ len fun len=>f (.ak b bz len)
 | .cJ b bz off,f=>hJ b fun b=>hJ bz fun bz=>hJ off fun off=>f (.cJ b bz off)
def vC {α:Type}:List qa→(List qa→α)→α
 | [],f=>f []
 |x::xs,f=>gD x fun x=>vC xs fun xs=>f (x::xs)
end
def Gh {α:Type}:Env→(Env→α)→α
 | [],f=>f []
 |(t,v,o)::e,f=>hJ t fun t=>gD v fun v=>Gf o fun o=>Gh e fun e=>f ((t,v,o)::e)
def MJ {α:Type}:List (qa×Bool)→(List (qa×Bool)→α)→α
 | [],f=>f []
 |(v,o)::e,f=>gD v fun v=>Gf o fun o=>MJ e fun e=>f ((v,o)::e)
def MK {α:Type}:List (qa×qa)→(List (qa×qa)→α)→α
 | [],f=>f []
 |(k,v)::e,f=>gD k fun k=>gD v fun v=>MK e fun e=>f ((k,v)::e)
def TU {α:Type}(x:Option qo)(f:Option qo→α):α:=match x with
 |none=>f E7
 |some .normal=>f (I .normal)
 |some (.exit id)=>hJ id fun id=>f (I (.exit id))
 |some .ret=>f (I .ret)
def TV {α:Type}:qn→(qn→α)→α
 | .hole,f=>f .hole
 | .cells cs,f=>MJ cs fun cs=>f (.cells cs)
 | .map es,f=>MK es fun es=>f (.map es)
 | .iter s pos,f=>hJ pos fun pos=>f (.iter s pos)
 | .fE t e l,f=>Gg l fun l=>f (.fE t e l)
 | .dead,f=>f .dead
 -- (what a vector holds was forced when it was appended)
 | .vec sz bz xs,f=>hJ sz fun sz=>hJ bz fun bz=>f (.vec sz bz xs)
 | .loop l,f=>Gh l.env fun e=>TU l.pending fun x=>f (.loop ⟨e,l.params,l.assign,l.body,x⟩)
def ML {α:Type}:j8→(j8→α)→α
 | [],f=>f []
 |b::h,f=>TV b fun b=>ML h fun h=>f (b::h)
def Gi {α:Type}(st:qg)(f:qg→α):α:=Gh st.env fun e=>ML st.heap fun h=>f ⟨e,h⟩
section
variable {α:Type}
theorem pj (n:Nat)(f:Nat→α):hJ n f=f n:=by cases n<;>rfl
theorem q6g (n:Int)(f:Int→α):TS n f=f n:=by cases n<;>simp[TS,pj]
theorem MN (n:Bool)(f:Bool→α):Gf n f=f n:=by cases n<;>rfl
theorem q3i (n:IntKind)(f:IntKind→α):q0w n f=f n:=by cases n<;>rfl
theorem TW:∀ (s:List UInt8) (f:List UInt8→α),Gg s f=f s
 | [],_=>rfl
 |c::s,f=>by simp only[Gg];rw[TW s]
theorem q75 (g:Fn)(f:Fn→α):TT g f=f g:=by cases g<;>simp[TT,pj]
mutual
theorem Gj:∀ (v:qa) (f:qa→α),gD v f=f v
 | .bool b,f=>by simp only[gD,MN]
 | .int k n,f=>by simp only[gD,q3i,q6g]
 | .str s,f=>by simp only[gD,TW]
 | .list b sz xs,f=>by simp only[gD,MN,pj];rw[Al xs]
 | .ms b o l,f=>by simp only[gD,pj]
 | .ptr b o,f=>by simp only[gD,pj]
 | .ah v,f=>by simp only[gD];rw[Gj v]
 | .cE n,f=>by simp only[gD,pj]
 | .bO,f=>by simp only[gD]
 | .map b,f=>by simp only[gD,pj]
 | .bN,f=>by simp only[gD]
 | .fn g a c,f=>by simp only[gD,q75];rw[Al a,Al c]
 | .bY,f=>by simp only[gD]
 | .agg cs,f=>by simp only[gD];rw[Al cs]
 | .aB cs,f=>by simp only[gD];rw[Al cs]
 | .undef,f=>by simp only[gD]
 | .any,f=>by simp only[gD]
 | .ak b bz len,f=>by simp only[gD,pj]
 | .cJ b bz off,f=>by simp only[gD,pj]
theorem Al:∀ (l:List qa) (f:List qa→α),vC l f=f l
 | [],f=>by simp only[vC]
 |x::xs,f=>by simp only[vC];rw[Gj x,Al xs]
end
theorem TX:∀ (e:Env) (f:Env→α),Gh e f=f e
 | [],_=>rfl
 |(t,v,o)::e,f=>by simp only[Gh,pj,Gj,MN];rw[TX e]
theorem qpz:∀ (e:List (qa×Bool)) (f:List (qa×Bool)→α),MJ e f=f e
 | [],_=>rfl
 |(v,o)::e,f=>by simp only[MJ,Gj,MN];rw[qpz e]
theorem qls:∀ (e:List (qa×qa)) (f:List (qa×qa)→α),MK e f=f e
 | [],_=>rfl
 |(v,o)::e,f=>by simp only[MK,Gj];rw[qls e]
theorem q4o (x:Option qo)(f:Option qo→α):TU x f=f x:=by
 cases x with
 |none=>rfl
 |some x=>cases x<;>simp[TU,pj]
theorem q5q (b:qn)(f:qn→α):TV b f=f b:=by
 cases b<;>simp[TV,qpz,qls,pj,TW,TX,q4o,Al]
theorem qq7:∀ (h:j8) (f:j8→α),ML h f=f h
 | [],_=>rfl
 |b::h,f=>by simp only[ML,q5q];rw[qq7 h]
theorem TY (st:qg)(f:qg→α):Gi st f=f st:=by simp only[Gi,TX,qq7]
end
def hZ (p:qt):Nat→XC
 |0,_,_=>E7
 |n+1,c,st=>match c with
  | .skip=>I (.normal,st)
  | .region na ops keep=>match mg p (hZ p n) na ops keep st with
   |some (x,bL)=>Gi bL fun s=>I (x,s)
   |none=>E7
  | .seq a b=>match hZ p n a st with
   |some (.normal,bL)=>hZ p n b bL
   |r=>r
  | .cond c a b=>match zc st.env c with
   |some (.bool t)=>bif t then hZ p n a st else hZ p n b st
   |_=>E7
  | .block id body=>match hZ p n body st with
   |some (.exit fp,bL)=>bif Ge fp id then I (.normal,bL)else I (.exit fp,bL)
   |r=>r
  | .loop body=>match hZ p n body st with
   |some (.normal,bL)=>Gi (gc st.heap.length bL) fun s=>hZ p n (.loop body) s
   |r=>r
  | .rangeFunc f params assign body=>match mr p (hZ p n) f params assign body st with
   |some (x,bL)=>Gi bL fun s=>I (x,s)
   |none=>E7
  | .exit id=>I (.exit id,st)
  | .ret=>I (.ret,st)
  | .grow sz=>match yd 0 st.env,yd 1 st.env with
   |some (.list Ef _ _,_),I (.int .i64 (.ofNat m),_)=>bif Mn 0 m&&If m 1073741824 then I (.normal,{ st with env:=[(0,.list E6 sz [],Ef)] })else E7
   |_,_=>E7
  | .stuck=>E7
theorem MO (p:qt):∀n,hZ p n=ye p n
 |0=>by funext c st;rfl
 |n+1=>by
  have ih:=MO p n
  funext c st
  cases c with
  |region na ops keep=>
   simp only[hZ,ye,ih]
   cases mg p (ye p n) na ops keep st with
   |none=>rfl
   |some r=>simp only[TY]
  |rangeFunc f ps a b=>
   simp only[hZ,ye,ih]
   cases mr p (ye p n) f ps a b st with
   |none=>rfl
   |some r=>simp only[TY]
  |loop body=>
   simp only[hZ,ye,ih,TY]
   rfl
  |_=>simp only[hZ,ye,ih]<;>rfl
inductive jb where
 |leaf (k:Nat) (f:qd)
 |node (m:Nat) (a b:jb)
def jb.find:jb→Nat→Option qd
 | .leaf k f,n=>bif Ge k n then I f else E7
 | .node m a b,n=>bif Mn n m then a.find n else b.find n
def jb.All (Q:Nat→qd→Prop):jb→Prop
 | .leaf k f=>Q k f
 | .node _ a b=>a.All Q∧b.All Q
theorem jb.fM {Q:Nat→qd→Prop}:∀ {t:jb} {k:Nat} {f:qd},t.All Q→t.find k=I f→Q k f
 | .leaf j g,k,f,h,hf=>by
  simp only[jb.find]at hf
  cases hb:Ge j k with
  |false=>simp[hb]at hf
  |true=>
   have:=En hb
   subst this
   simp only[hb,cT,I.injEq]at hf
   subst hf;exact h
 | .node m a b,k,f,h,hf=>by
  simp only[jb.find]at hf
  cases hb:Mn k m with
  |true=>simp only[hb,cT]at hf;exact jb.fM h.1 hf
  |false=>simp only[hb,cond_false]at hf;exact jb.fM h.2 hf
def jb.prog (t:jb)(cq:vh)(maps:LU:=fun _=>E7):qt:={ bj:=t.find,cq:=cq,maps:=maps }
theorem jc2 {p:qt}{n k:Nat}{args:List qa}{r:Option (qa×Bool)}(h:jy p (hZ p n) k args=r):jy p (ye p n) k args=r:=by
 rw[←MO];exact h
def Kw (w:World):Nat→Nat→Option Value:=fun r o=>(w.cell? ⟨r,o,E7⟩).filter (·.oneCell')
theorem j3k {w:World}{r o:Nat}{v:Value}(h:w.cell? ⟨r,o,E7⟩=I v)(h1:v.oneCell'=Ef):Kw w r o=I v:=by simp[Kw,h,h1]
theorem q6k {w:World}{r o:Nat}{v:Value}(h:Kw w r o=I v):w.cell? ⟨r,o,E7⟩=I v∧v.oneCell'=Ef:=by
 unfold Kw at h;rw[Option.filter_eq_some_iff]at h;exact h
def qhr (P:Program)(t:TypeId):Bool:=match P.underlying t with
 |some (.struct _)=>Ef
 |some (.array _ _)=>Ef
 |_=>E6
def MP (P:Program):Nat→List Field→Bool
 |_,[]=>Ef
 |o,f::fs=>f.offset == o&&MP P (o+P.cellsOf f.type) fs
def MQ (P:Program)(fs:List Field):Nat:=(fs.map fun f=>P.cellsOf f.type).sum
def qM (P:Program):Nat→TypeId→Bool
 |0,_=>E6
 |n+1,t=>match P.underlying t with
  |some .bool=>P.cellsOf t == 1
  |some (.int _)=>P.cellsOf t == 1
  |some .string=>P.cellsOf t == 1
  |some (.slice e)=>P.cellsOf t == 1&&qM P n e&&decide (0<P.cellsOf e)
  |some (.struct fs)=>MP P 0 fs.toList&&MQ P fs.toList == P.cellsOf t&&fs.toList.all fun f=>qM P n f.type
  |some (.array k e)=>P.cellsOf t == k*P.cellsOf e&&qM P n e
  |_=>E6
def Gk (ty:TypeId→List qa→Prop):List Field→List qa→Prop
 | [],cs=>cs=[]
 |f::fs,cs=>∃ys zs,cs=ys++zs∧ty f.type ys∧Gk ty fs zs
def Gl (ty:List qa→Prop):Nat→List qa→Prop
 |0,cs=>cs=[]
 |k+1,cs=>∃ys zs,cs=ys++zs∧ty ys∧Gl ty k zs
def qaw (P:Program):Nat→TypeId→List qa→Prop
 |0,_,_=>False
 |n+1,t,cs=>match P.underlying t with
  |some .bool=>∃b,cs=[.bool b]
  |some (.int k)=>∃m,cs=[.int k m]∧(Lit.int k m).wf=Ef
  |some .string=>∃s,cs=[.str s]∧s.length≤maxLen
  |some (.slice e)=>cs=[.list Ef 0 []]∨∃xs,cs=[.list E6 (P.cellsOf e) xs]∧xs.length≤maxLen∧∀y∈xs,qaw P n e y.flat∧y.isAgg=qhr P e
  |some (.struct fs)=>Gk (qaw P n) fs.toList cs
  |some (.array k e)=>Gl (qaw P n e) k cs
  |_=>False
section
variable {P:Program}{H:Type}{enc:TypeId×Value→H}{w:World}
theorem q0j:∀ (fs:List Field) (o:Nat) (vs:List Value),MP P o fs=Ef→vs.length=o+MQ P fs→vs.drop o=(fs.map fun f=>(vs.drop f.offset).take (P.cellsOf f.type)).flatten
 | [],o,vs,_,hl=>by simp[MQ]at hl;simp[hl]
 |f::fs,o,vs,ht,hl=>by
  simp only[MP,E3,beq_iff_eq]at ht
  obtain⟨rfl,ht⟩:=ht
  have ih:=q0j fs _ vs ht (by simp[MQ]at hl ⊢;omega)
  rw[Mt,Hh,←ih,←Mj,List.take_append_drop]
theorem DI {α β:Type}{f:α→Option β}:∀ {l:List α} {ys:List β},l.mapM f=I ys→ys.length=l.length∧∀(i:Nat) (x:α),l[i]?=I x→∃y,ys[i]?=I y∧f x=I y
 | [],ys,h=>by simp at h;subst h;simp
 |a::l,ys,h=>by
  rw[List.mapM_cons]at h
  cases hf:f a with
  |none=>simp[hf]at h
  |some y=>
   cases hr:l.mapM f with
   |none=>simp[hf,hr]at h
   |some zs=>
    simp[hf,hr]at h
    subst h
    obtain⟨h1,h2⟩:=DI hr
    refine⟨by simp[h1],fun i x hx=>?_⟩
    cases i with
    |zero=>simp at hx;subst hx;exact⟨y,rfl,hf⟩
    |succ i=>simp at hx;obtain⟨z,h3,h4⟩:=h2 i x hx;exact⟨z,by simpa using h3,h4⟩
theorem q4f {base n:Nat}{a:Addr}{vs:List Value}(h:w.cells? base a n=I vs):vs.length=n∧∀(i:Nat) (v:Value),vs[i]?=I v→w.cell? (a.add i)=I v:=by
 unfold World.cells? at h
 split at h
 ·obtain⟨h1,h2⟩:=DI h
  rw[Hq]at h1
  refine⟨h1,fun i v hv=>?_⟩
  have hi:i<n:=by rw[←h1];exact(Gy.1 hv).1
  obtain⟨y,h3,h4⟩:=h2 i i (by rw[E0 hi])
  rw[hv]at h3;cases h3;exact h4
 ·cases h
theorem qvo {ty:TypeId→List qa→Prop}:∀(fs:List Field) (mO:List (List Value)),mO.length=fs.length→(∀(i:Nat) (f:Field) (vs:List Value),fs[i]?=I f→mO[i]?=I vs→∃cs,aM (.bM (Kw w)) cs vs∧ty f.type cs)→∃cs,aM (.bM (Kw w)) cs mO.flatten∧Gk ty fs cs
 | [],mO,hl,_=>by
  have:mO=[]:=Gc.1 (by simpa using hl)
  subst this
  exact⟨[],.nil,rfl⟩
 |f::fs,[],hl,_=>by simp at hl
 |f::fs,vs::mO,hl,h=>by
  obtain⟨ys,h1,h2⟩:=h 0 f vs rfl rfl
  obtain⟨zs,h3,h4⟩:=qvo fs mO (by simpa using hl) (fun i f' pU hf hv=>h (i+1) f' pU (by simpa using hf) (by simpa using hv))
  exact⟨ys++zs,aM.append h1 h3,ys,zs,rfl,h2,h4⟩
theorem qt3 {ty:List qa→Prop}:∀(k:Nat) (mO:List (List Value)),mO.length=k→(∀(i:Nat) vs,mO[i]?=I vs→∃cs,aM (.bM (Kw w)) cs vs∧ty cs)→∃cs,aM (.bM (Kw w)) cs mO.flatten∧Gl ty k cs
 |0,mO,hl,_=>by
  have:mO=[]:=Gc.1 hl
  subst this
  exact⟨[],.nil,rfl⟩
 |k+1,[],hl,_=>by simp at hl
 |k+1,vs::mO,hl,h=>by
  obtain⟨ys,h1,h2⟩:=h 0 vs rfl
  obtain⟨zs,h3,h4⟩:=qt3 k mO (by simpa using hl) (fun i pU hv=>h (i+1) pU (by simpa using hv))
  exact⟨ys++zs,aM.append h1 h3,ys,zs,rfl,h2,h4⟩
theorem q7d (n:Nat):∀(k:Nat) (vs:List Value),vs.length=k*n→vs=((Ga k).map fun i=>(vs.drop (i*n)).take n).flatten
 |0,vs,hl=>by
  have:vs=[]:=Gc.1 (by simpa using hl)
  simp[this]
 |k+1,vs,hl=>by
  have ih:=q7d n k (vs.drop n) (by simp[hl,Hb])
  rw[List.range_succ_eq_map,Mt,Hh,List.map_map]
  have e:(Ga k).map ((fun i=>(vs.drop (i*n)).take n) ∘ Nat.succ)=(Ga k).map fun i=>((vs.drop n).drop (i*n)).take n:=by
   apply List.map_congr_left
   intro i _
   simp only[Function.comp,Mj]
   congr 2
   rw[Hb];omega
  rw[e,←ih]
  simp
theorem T0:∀ {n:Nat} {t:TypeId} {cs:List qa},qaw P n t cs→∀x∈cs,ze x=Ef
 |0,_,_,h=>h.elim
 |n+1,t,cs,h=>by
  have fsc:∀(fs:List Field) (cs:List qa),Gk (qaw P n) fs cs→∀x∈cs,ze x=Ef:=by
   intro fs
   induction fs with
   |nil=>intro cs h;simp only[Gk]at h;subst h;simp
   |cons f fs ih=>
    rintro cs ⟨ys,zs,rfl,h1,h2⟩ x hx
    rcases Mi.1 hx with hx|hx
    ·exact T0 h1 x hx
    ·exact ih _ h2 x hx
  have rsc:∀(e:TypeId) (k:Nat) (cs:List qa),Gl (qaw P n e) k cs→∀x∈cs,ze x=Ef:=by
   intro e k
   induction k with
   |zero=>intro cs h;simp only[Gl]at h;subst h;simp
   |succ k ih=>
    rintro cs ⟨ys,zs,rfl,h1,h2⟩ x hx
    rcases Mi.1 hx with hx|hx
    ·exact T0 h1 x hx
    ·exact ih _ h2 x hx
  simp only[qaw]at h
  split at h
  ·obtain⟨b,rfl⟩:=h;simp[ze]
  ·obtain⟨m,rfl,_⟩:=h;simp[ze]
  ·obtain⟨s,rfl,_⟩:=h;simp[ze]
  ·rcases h with rfl|⟨xs,rfl,_⟩<;>simp[ze]
  ·exact fsc _ _ h
  ·exact rsc _ _ _ h
  ·exact h.elim
theorem qx0 {n:Nat}{t:TypeId}{cs:List qa}(h:qaw P n t cs)(ha:qhr P t=E6):∃x,cs=[x]∧x.isAgg=E6:=by
 cases n with
 |zero=>exact h.elim
 |succ n=>
  unfold qhr at ha
  simp only[qaw]at h
  split at h
  ·obtain⟨b,rfl⟩:=h;exact⟨_,rfl,rfl⟩
  ·obtain⟨m,rfl,_⟩:=h;exact⟨_,rfl,rfl⟩
  ·obtain⟨s,rfl,_⟩:=h;exact⟨_,rfl,rfl⟩
  ·rcases h with rfl|⟨xs,rfl,_⟩<;>exact⟨_,rfl,rfl⟩
  ·rename_i hu;rw[hu]at ha;cases ha
  ·rename_i hu;rw[hu]at ha;cases ha
  ·exact h.elim
theorem read {held:Bool}:∀(n fuel:Nat) (t:TypeId) (vs:List Value) (d:DataW H) (ps:List MemPlace),qM P n t=Ef→DataW.trod enc P w 0 (fun _=>Ef) held fuel t vs=I (d,ps) →
  ∃cs,aM (.bM (Kw w)) cs vs∧qaw P n t cs∧cs.length=P.cellsOf t
 |0,_,_,_,_,_,hp,_=>by simp[qM]at hp
 |n+1,0,_,_,_,_,_,h=>by simp[DataW.trod]at h
 |n+1,fuel+1,t,vs,d,ps,hp,h=>by
  simp only[qM]at hp
  simp only[qaw]
  simp only[DataW.trod]at h
  cases hu:P.underlying t with
  |none=>simp[hu]at hp
  |some td=>
   rw[hu]at h hp
   cases td with
   |bool=>
    simp only[beq_iff_eq]at hp
    split at h<;>first|cases ‹I _=I _› | skip
    all_goals first|(rename_i heq;cases heq;done)|skip
    ·exact⟨_,.cons _ _ _ _ (.bool _) .nil,⟨_,rfl⟩,by simp[hp]⟩
    ·cases h
   |int k=>
    simp only[beq_iff_eq]at hp
    split at h<;>first|cases ‹I _=I _› | skip
    all_goals first|(rename_i heq;cases heq;done)|skip
    ·split at h
     ·rename_i hk
      obtain⟨rfl,cY⟩:=hk
      exact⟨_,.cons _ _ _ _ (.int _ _) .nil,⟨_,rfl,cY⟩,by simp[hp]⟩
     ·cases h
    ·cases h
   |string=>
    simp only[beq_iff_eq]at hp
    split at h<;>first|cases ‹I _=I _› | skip
    all_goals first|(rename_i heq;cases heq;done)|skip
    ·rename_i s
     split at h
     ·rename_i hk
      refine⟨[.str s.data.toList],.cons _ _ _ _ (qp.str s.data.toList) .nil,⟨_,rfl,?_⟩,by simp[hp]⟩
      simpa using hk
     ·cases h
    ·cases h
   |slice e=>
    simp only[E3,beq_iff_eq,decide_eq_true_eq]at hp
    obtain⟨⟨jG,MR⟩,hp3⟩:=hp
    split at h<;>first|cases ‹I _=I _› | skip
    all_goals first|(rename_i heq;cases heq;done)|skip
    ·exact⟨_,.cons _ _ _ _ (.iI 0) .nil,.inl rfl,by simp[jG]⟩
    ·rename_i a len cap
     split at h
     ·rename_i hk
      obtain⟨_,cY,hk3⟩:=hk
      cases he:(Ga len).mapM (fun i=>(w.cells? 0 (a.add (i*P.cellsOf e)) (P.cellsOf e)).bind (DataW.trod enc P w 0 (fun _=>Ef) held fuel e))with
      |none=>simp[he]at h
      |some elems=>
       simp only[he,Ma,if_true]at h
       cases hr:(Ga (cap-len)).mapM (fun j=>(w.cells? 0 (a.add ((len+j)*P.cellsOf e)) (P.cellsOf e)).bind (DataW.trod enc P w 0 (fun _=>Ef) held fuel e))with
       |none=>simp[hr]at h
       |some rest=>
        obtain⟨he1,Mw⟩:=DI he
        obtain⟨vr,qD⟩:=DI hr
        rw[Hq]at he1 vr
        have Gm:0<cap→a.spot=E7:=fun hc=>by
         have vD:∃z,(w.cells? 0 (a.add (0*P.cellsOf e)) (P.cellsOf e)).bind (DataW.trod enc P w 0 (fun _=>Ef) held fuel e)=I z:=by
          by_cases hl:0<len
          ·obtain⟨y,_,hy⟩:=Mw 0 0 (by rw[E0 hl]);exact⟨y,hy⟩
          ·obtain⟨y,_,hy⟩:=qD 0 0 (by rw[E0 (by omega)])
           have E1:len=0:=by omega
           subst E1
           exact⟨y,by simpa using hy⟩
         obtain⟨z0,vD⟩:=vD
         cases MS:w.cells? 0 (a.add (0*P.cellsOf e)) (P.cellsOf e)with
         |none=>rw[MS]at vD;cases vD
         |some us0=>
          obtain⟨d1,d2⟩:=q4f MS
          have dk:=d2 0 _ (List.getElem?_eq_getElem (show 0<us0.length by omega))
          have:=World.cell?_spot dk
          simpa[Addr.add]using this
        by_cases hcap:0<cap
        ·have ME:=Gm hcap
         obtain⟨r,o,sp⟩:=a
         simp only at ME
         subst ME
         have elem:∀(i:Nat),i<len→∃y:qa,bZ (.bM (Kw w)) r y.flat (o+i*P.cellsOf e)∧y.flat.length=P.cellsOf e∧qaw P n e y.flat∧y.isAgg=qhr P e:=by
          intro i hi
          obtain⟨z,_,hz⟩:=Mw i i (by rw[E0 hi])
          cases hc:w.cells? 0 ((⟨r,o,E7⟩:Addr).add (i*P.cellsOf e)) (P.cellsOf e)with
          |none=>simp[hc]at hz
          |some us=>
           simp only[hc,Ma]at hz
           obtain⟨c1,c2⟩:=q4f hc
           obtain⟨cs,k1,k2,k3⟩:=read n fuel e us z.1 z.2 MR hz
           have cI:=zG k1 (T0 k2)
           have hcs:bZ (.bM (Kw w)) r cs (o+i*P.cellsOf e):=bZ.gZ k1 fun j v hj=>by
            have h1:=c2 j v hj
            rw[add_lit,add_lit]at h1
            exact j3k h1 (cI v (Gd hj))
           cases cL:qhr P e with
           |true=>exact⟨.agg cs,hcs,k3,k2,rfl⟩
           |false=>
            obtain⟨x,rfl,hx⟩:=qx0 k2 cL
            have hf:x.flat=[x]:=qc0 hx
            exact⟨x,by rw[hf];exact hcs,by rw[hf];exact k3,by rw[hf];exact k2,hx⟩
         have rows:∀(m:Nat) (q:Nat),q+m=len→∃ys:List qa,ys.length=m∧aX (.bM (Kw w)) r (P.cellsOf e) ys (o+q*P.cellsOf e)∧∀y∈ys,qaw P n e y.flat∧y.isAgg=qhr P e:=by
          intro m
          induction m with
          |zero=>intro q _;exact⟨[],rfl,.fg _ _ _,by simp⟩
          |succ m ih=>
           intro q hq
           obtain⟨ys,y1,y2,y3⟩:=ih (q+1) (by omega)
           obtain⟨y,z1,z2,z3⟩:=elem q (by omega)
           refine⟨y::ys,by simp[y1],.db _ _ _ _ _ z2 z1 ?_,?_⟩
           ·rw[show o+q*P.cellsOf e+P.cellsOf e=o+(q+1)*P.cellsOf e from by rw[Hb];omega];exact y2
           ·intro x hx
            rcases List.mem_cons.1 hx with rfl|hx
            ·exact z3
            ·exact y3 x hx
         obtain⟨ys,y1,y2,y3⟩:=rows len 0 (by omega)
         rw[Nat.zero_mul,Nat.add_zero]at y2
         subst y1
         exact⟨_,.cons _ _ _ _ (.list (P.cellsOf e) ys r o cap cY y2) .nil,.inr ⟨ys,rfl,by omega,y3⟩,by simp[jG]⟩
        ·have MS:cap=0:=by omega
         have E1:len=0:=by omega
         subst MS;subst E1
         by_cases lW:a.spot=E7
         ·obtain⟨r,o,sp⟩:=a
          simp only at lW
          subst lW
          exact⟨_,.cons _ _ _ _ (.list (P.cellsOf e) [] r o 0 (by simp) (.fg _ _ _)) .nil,.inr ⟨[],rfl,by simp,by simp⟩,by simp[jG]⟩
         ·exact⟨_,.cons _ _ _ _ (.iJ (P.cellsOf e) a lW) .nil,.inr ⟨[],rfl,by simp,by simp⟩,by simp[jG]⟩
     ·cases h
    ·cases h
   |struct fs=>
    simp only[E3,beq_iff_eq,List.all_eq_true]at hp
    obtain⟨⟨jG,MR⟩,hp3⟩:=hp
    change (if vs.length=P.cellsOf t then(fs.toList.mapM fun f=>DataW.trod enc P w 0 (fun _=>Ef) held fuel f.type ((vs.drop f.offset).take (P.cellsOf f.type))).map fun xs=>(DataW.agg (xs.map (·.1)),xs.flatMap (·.2))else E7)=I (d,ps)at h
    ·split at h
     ·rename_i hl
      cases hm:fs.toList.mapM (fun f=>DataW.trod enc P w 0 (fun _=>Ef) held fuel f.type ((vs.drop f.offset).take (P.cellsOf f.type)))with
      |none=>simp[hm]at h
      |some zs=>
       obtain⟨m1,m2⟩:=DI hm
       have Am:=q0j fs.toList 0 vs jG (by omega)
       obtain⟨cs,k1,k2⟩:=qvo (w:=w) (ty:=qaw P n) fs.toList (fs.toList.map fun f=>(vs.drop f.offset).take (P.cellsOf f.type)) (by simp) (fun i f us hf hv=>by
        obtain⟨z,_,hz⟩:=m2 i f hf
        have gy:us=(vs.drop f.offset).take (P.cellsOf f.type):=by
         rw[H6,hf]at hv
         simpa using hv.symm
        subst gy
        obtain⟨cs,q1,q2,_⟩:=read n fuel f.type _ z.1 z.2 (hp3 f (Gd hf)) hz
        exact⟨cs,q1,q2⟩)
       rw[←Am]at k1
       exact⟨cs,by simpa using k1,k2,by have:=k1.length;simp at this;omega⟩
     ·cases h
   |array k e=>
    simp only[E3,beq_iff_eq]at hp
    obtain⟨jG,MR⟩:=hp
    change (if vs.length=P.cellsOf t then((Ga k).mapM fun i=>DataW.trod enc P w 0 (fun _=>Ef) held fuel e ((vs.drop (i*P.cellsOf e)).take (P.cellsOf e))).map fun xs=>(DataW.agg (xs.map (·.1)),xs.flatMap (·.2))else E7)=I (d,ps)at h
    ·split at h
     ·rename_i hl
      cases hm:(Ga k).mapM (fun i=>DataW.trod enc P w 0 (fun _=>Ef) held fuel e ((vs.drop (i*P.cellsOf e)).take (P.cellsOf e)))with
      |none=>simp[hm]at h
      |some zs=>
       obtain⟨m1,m2⟩:=DI hm
       have Am:=q7d (P.cellsOf e) k vs (by omega)
       obtain⟨cs,k1,k2⟩:=qt3 (w:=w) (ty:=qaw P n e) k ((Ga k).map fun i=>(vs.drop (i*P.cellsOf e)).take (P.cellsOf e)) (by simp) (fun i us hv=>by
        have hi:i<k:=by
         have:=(Gy.1 hv).1
         simpa using this
        obtain⟨z,_,hz⟩:=m2 i i (by rw[E0 hi])
        have gy:us=(vs.drop (i*P.cellsOf e)).take (P.cellsOf e):=by
         rw[H6,E0 hi]at hv
         simpa using hv.symm
        subst gy
        obtain⟨cs,q1,q2,_⟩:=read n fuel e _ z.1 z.2 MR hz
        exact⟨cs,q1,q2⟩)
       rw[←Am]at k1
       exact⟨cs,k1,k2,by have:=k1.length;omega⟩
     ·cases h
   |_=>simp at hp
end
open Go.ChangeShapes Go.WideShapes Go.ChangeAt Go.RowKit
section
variable {P:Program}{H:Type}{enc:TypeId×Value→H}{w:World}
def jbg (P:Program)(n:Nat)(t:TypeId)(x:qa):Prop:=qaw P n t x.flat∧x.isAgg=qhr P t
def qo8 (P:Program)(n:Nat):List TypeId→List qa→Prop
 | [],xs=>xs=[]
 |t::ts,xs=>∃y ys,xs=y::ys∧jbg P n t y∧qo8 P n ts ys
theorem jm7 {n:Nat}{t:TypeId}{v:Value}{d:DataW H}{ps:List MemPlace}{base:Nat}(hp:qM P n t=Ef)(hv:Value.okWide P w .any base t v)(h:DataW.Trod enc P w 0 (fun _=>Ef) Ef t v d ps):∃x,bF (.bM (Kw w)) x v∧jbg P n t x:=by
 obtain⟨fuel,hf⟩:=h
 obtain⟨cs,k1,k2,k3⟩:=read n fuel t _ d ps hp hf
 cases cL:qhr P t with
 |true=>
  have FI:∃cells,v=.agg cells:=by
   unfold qhr at cL
   unfold Value.okWide at hv
   split at cL
   ·rename_i fs hu;rw[hu]at hv;obtain⟨c,hc,_⟩:=hv;exact⟨c,hc⟩
   ·rename_i a b hu;rw[hu]at hv;obtain⟨c,hc,_⟩:=hv;exact⟨c,hc⟩
   ·cases cL
  obtain⟨cells,rfl⟩:=FI
  exact⟨.agg cs,.agg cs cells.toList k1,k2,cL.symm⟩
 |false=>
  obtain⟨x,rfl,hx⟩:=qx0 k2 cL
  have FI:v.cells.toList=[v]:=by
   cases v with
   |agg c=>
    exfalso
    unfold Value.okWide at hv
    unfold qhr at cL
    cases n with
    |zero=>simp[qM]at hp
    |succ n=>
     simp only[qM]at hp
     cases hu:P.underlying t with
     |none=>rw[hu]at hp;cases hp
     |some td=>rw[hu]at hp hv cL;cases td<;>first|(simp at hp;done)|(simp at cL;done)|(simp[Cell.okWide,hu,Cell.ok]at hv;done)
   |_=>rfl
  rw[FI]at k1
  cases k1 with
  |cons _ _ _ _ h1 _=>exact⟨x,h1,by rw[qc0 hx];exact k2,by rw[hx,cL]⟩
theorem q6i {n:Nat}:∀ {ts:List TypeId} {vs:List Value} {ds:List (DataW H)} {ps:List MemPlace},ts.all (qM P n)=Ef→(∀(j:Nat) t v,ts[j]?=I t→vs[j]?=I v→∃base,Value.okWide P w .any base t v)→DataW.TrodAll enc P w 0 (fun _=>Ef) Ef ts vs ds ps →
  ds.length=ts.length∧∃xs,aM (.bM (Kw w)) xs vs∧qo8 P n ts xs
 | [],[],[],ps,_,_,_=>⟨rfl,[],.nil,rfl⟩
 | [],[],_::_,ps,_,_,h=>by simp[DataW.TrodAll]at h
 | [],_::_,_,ps,_,_,h=>by simp[DataW.TrodAll]at h
 |_::_,[],_,ps,_,_,h=>by simp[DataW.TrodAll]at h
 |_::_,_::_,[],ps,_,_,h=>by simp[DataW.TrodAll]at h
 |t::ts,v::vs,d::ds,ps,hp,hv,h=>by
  obtain⟨p,q,h1,h2,_⟩:=h
  simp only[Mu,E3]at hp
  obtain⟨base,hb⟩:=hv 0 t v rfl rfl
  obtain⟨x,k1,k2⟩:=jm7 hp.1 hb h1
  obtain⟨hl,xs,k3,k4⟩:=q6i hp.2 (fun j t' v' ht Af=>hv (j+1) t' v' (by simpa using ht) (by simpa using Af)) h2
  exact⟨by simp[hl],x::xs,.cons _ _ _ _ k1 k3,x,xs,rfl,k2,k4⟩
theorem Ext.frame {w':World}(h:Ext w w')(may:MemPlace→Prop):w.keptBut w' may:=by
 refine⟨h.os,h.output,fun i hi=>?_⟩
 rw[h.same i hi]
 split<;>simp_all
theorem Ext.sameAt {w':World}(h:Ext w w'){p:MemPlace}(hp:p.block<w.heap.size):w.sameAt w' p:=by
 cases p with
 |cell b o=>exact World.cell?_of_block (w:=w) (h.same b hp)
 |map b=>exact h.same b hp
theorem q2u {w':World}(hx:Ext w w')(hl:laidOutB P=Ef):∀ {ts:List TypeId} {vs:List Value} {ds:List (DataW H)} {ps:List MemPlace},ts.all (fun t=>P.readableRec t&&decide (t<P.types.size))=Ef→DataW.TrodAll enc P w 0 (fun _=>Ef) Ef ts vs ds ps →
  DataW.TrodAll enc P w' 0 (fun b=>decide (b<w.heap.size)) Ef ts vs ds ps
 | [],[],[],ps,_,h=>h
 | [],[],_::_,ps,_,h=>by simp[DataW.TrodAll]at h
 | [],_::_,_,ps,_,h=>by simp[DataW.TrodAll]at h
 |_::_,[],_,ps,_,h=>by simp[DataW.TrodAll]at h
 |_::_,_::_,[],ps,_,h=>by simp[DataW.TrodAll]at h
 |t::ts,v::vs,d::ds,ps,hr,h=>by
  obtain⟨p,q,h1,h2,h3⟩:=h
  simp only[Mu,E3,decide_eq_true_eq]at hr
  have aY:∀x∈p,x.block<w.heap.size:=by obtain⟨m,hm⟩:=h1;exact DataW.trod_lt m _ _ _ hm
  exact⟨p,q,WideElems.Trod_stays hl hr.1.1 hr.1.2 h1 (fun x hm=>hx.sameAt (aY x hm)) (fun x hm=>by simpa using aY x hm),q2u hx hl hr.2 h2,h3⟩
end
def ol (f g:XC):Prop:=∀c st r,f c st=I r→g c st=I r
section
variable {p:qt}{f g:XC}
theorem q07 (h:ol f g){af:qd}{args:List qa}{hp:j8}{r:qa×Bool×j8}(hr:oU f af args hp=I r):oU g af args hp=I r:=by
 unfold oU at *
 cases hb:If args.length af.ntmps with
 |false=>simp[hb]at hr
 |true=>
  simp only[hb,cT]at hr ⊢
  split at hr
  ·rename_i st bU;rw[h _ _ _ bU];exact hr
  ·rename_i st bU;rw[h _ _ _ bU];exact hr
  ·cases hr
theorem T1 (h:ol f g){k:Nat}{args:List qa}{hp:j8}{r:qa×Bool×j8}(hr:zf p f k args hp=I r):zf p g k args hp=I r:=by
 unfold zf at *
 split at hr
 ·exact q07 h hr
 ·exact hr
theorem T2 (h:ol f g){k:Nat}{args:List qa}{r:qa×Bool}(hr:jy p f k args=I r):jy p g k args=I r:=by
 unfold jy at *
 split at hr
 ·exact hr
 ·split at hr
  ·rename_i v o hh hc;rw[T1 h hc];exact hr
  ·cases hr
theorem q37 (h:ol f g){b:Nat}{args:List qa}{hp:j8}{r:qa×j8}(hr:jO f b args hp=I r):jO g b args hp=I r:=by
 unfold jO at *
 split at hr
 ·split at hr
  ·split at hr
   ·rename_i st bU
    rw[h _ _ _ bU]
    simp only[]
    split at hr
    ·rename_i l1 gL
     cases jG:l1.pending.isNone with
     |false=>simp[jG]at hr
     |true=>
      simp only[jG,cT]at hr ⊢
      split at hr
      ·rename_i x bL gQ
       rw[h _ _ _ gQ]
       exact hr
      ·cases hr
    ·cases hr
   ·cases hr
  ·cases hr
 ·cases hr
theorem q04 (h:ol f g){h0:Nat}{e:Env}{hp:j8}{md:jc}{x:qh}{l:List qh}{r:qq}(hr:iC p f h0 e hp md x l=I r):iC p g h0 e hp md x l=I r:=by
 unfold iC at *
 split at hr
 ·cases md with
  |bM=>
   simp only[]at hr ⊢
   rename_i k first captured vs _ _
   cases hb:zu 0 (first++vs++captured)with
   |false=>rw[hb]at hr;cases hr
   |true=>
    rw[hb]at hr
    simp only[cT]at hr ⊢
    split at hr
    ·rename_i v o hc;rw[T2 h hc];exact hr
    ·cases hr
  |red=>
   simp only[]at hr ⊢
   split at hr
   ·rename_i us hf
    cases hb:zu 0 us with
    |false=>rw[hb]at hr;cases hr
    |true=>
     rw[hb]at hr
     simp only[cT]at hr ⊢
     split at hr
     ·rename_i v o hc;rw[T2 h hc];exact hr
     ·cases hr
   ·cases hr
  |fb _=>
   simp only[]at hr ⊢
   rename_i k first captured vs _ _ _
   cases he:(first++vs++captured).isEmpty with
   |true=>rw[he]at hr;exact hr
   |false=>
    rw[he]at hr
    simp only[cond_false]at hr ⊢
    cases hb:zu 0 (first++vs++captured)with
    |false=>rw[hb]at hr;cases hr
    |true=>
     rw[hb]at hr
     simp only[cT]at hr ⊢
     split at hr
     ·rename_i v o hc;rw[T2 h hc];exact hr
     ·cases hr
  |shr=>
   simp only[]at hr ⊢
   split at hr
   ·rename_i v o hh hc;rw[T1 h hc];exact hr
   ·cases hr
 ·cases md with
  |shr=>
   simp only[]at hr ⊢
   split at hr
   ·rename_i v hh hc;rw[q37 h hc];exact hr
   ·cases hr
  |_=>simp at hr
 ·cases hr
theorem q5p (h:ol f g){h0:Nat}{al:Option (List Nat)}{e:Env}{hp:j8}{op:qw}{r:qq}(hr:j9 p f h0 al e hp op=I r):j9 p g h0 al e hp op=I r:=by
 cases op with
 |call md x l=>exact q04 h hr
 |append rk sz b x y=>cases rk<;>exact hr
 |bW rk sz b z n c=>cases rk<;>exact hr
 |_=>exact hr
theorem qp4 (h:ol f g){h0:Nat}{o:qv}{st bL:qg}(hr:iD p f h0 o st=I bL):iD p g h0 o st=I bL:=by
 unfold iD at *
 split at hr
 ·split at hr
  ·rename_i r hs;rw[q5p h hs];exact hr
  ·cases hr
 ·exact hr
 ·cases hr
theorem T3 (h:ol f g){h0:Nat}:∀ {l:List qv} {st bL:qg},fG p f h0 l st=I bL→fG p g h0 l st=I bL
 | [],_,_,hr=>hr
 |o::l,st,bL,hr=>by
  simp only[fG]at hr ⊢
  split at hr
  ·rename_i s1 h1;rw[qp4 h h1];exact T3 h hr
  ·cases hr
theorem qr6 (h:ol f g){na:Nat}{l:List qv}{k:Option (List Nat)}{st:qg}{r:qo×qg}(hr:mg p f na l k st=I r):mg p g na l k st=I r:=by
 unfold mg at *
 split at hr
 ·rename_i s1 h1;rw[T3 h h1];exact hr
 ·cases hr
theorem qt2 (h:ol f g){x:qh}{ps:List Nat}{a b:qe}{st:qg}{r:qo×qg}(hr:mr p f x ps a b st=I r):mr p g x ps a b st=I r:=by
 unfold mr at *
 cases hn:(km a&&km b)with
 |false=>simp[hn]at hr
 |true=>
  simp only[hn,cT]at hr ⊢
  split at hr
  ·split at hr
   ·rename_i v o hh hc;rw[T1 h hc];exact hr
   ·cases hr
  ·cases hr
end
theorem qw2 (p:qt):∀n,ol (ye p n) (ye p (n+1))
 |0=>fun c st r h=>by simp[ye]at h
 |n+1=>by
  have ih:=qw2 p n
  intro c st r h
  cases c with
  |region na l k=>simp only[ye]at h ⊢;exact qr6 ih h
  |rangeFunc f ps a b=>simp only[ye]at h ⊢;exact qt2 ih h
  |seq a b=>
   rw[ye]at h ⊢
   split at h
   ·rename_i gR h1
    rw[ih _ _ _ h1];exact ih _ _ _ h
   ·rename_i bA
    rw[ih _ _ _ h]
    split
    ·rename_i gR h1;cases h1;exact absurd h (bA _)
    ·rfl
  |cond c a b=>
   rw[ye]at h ⊢
   split at h
   ·rename_i t ht
    cases t
    ·simp only[cond_false]at h ⊢;exact ih _ _ _ h
    ·simp only[cT]at h ⊢;exact ih _ _ _ h
   ·cases h
  |block id b=>
   rw[ye]at h ⊢
   split at h
   ·rename_i fp gR h1
    rw[ih _ _ _ h1];exact h
   ·rename_i bA
    rw[ih _ _ _ h]
    split
    ·rename_i fp gR h1;cases h1;exact absurd h (bA _ _)
    ·rfl
  |loop b=>
   rw[ye]at h ⊢
   split at h
   ·rename_i gR h1
    rw[ih _ _ _ h1];exact ih _ _ _ h
   ·rename_i bA
    rw[ih _ _ _ h]
    split
    ·rename_i gR h1;cases h1;exact absurd h (bA _)
    ·rfl
  |_=>exact h
theorem ux (p:qt){n m:Nat}(h:n≤m):ol (ye p n) (ye p m):=by
 induction h with
 |refl=>exact fun _ _ _ h=>h
 |step _ ih=>exact fun c st r hr=>qw2 p _ c st r (ih c st r hr)
open Classical in
noncomputable def X (p:qt):XC:=fun c st=>if h:∃r n,ye p n c st=I r then I (Classical.choose h)else E7
theorem eG {p:qt}{c:qe}{st:qg}{r:qo×qg}:X p c st=I r↔∃n,ye p n c st=I r:=by
 unfold X
 constructor
 ·intro h
  split at h
  ·rename_i hh
   cases h
   exact Classical.choose_spec hh
  ·cases h
 ·rintro ⟨n,hn⟩
  have hh:∃r n,ye p n c st=I r:=⟨r,n,hn⟩
  rw[dif_pos hh]
  obtain⟨m,hm⟩:=Classical.choose_spec hh
  have h1:=ux p (Gb n m) _ _ _ hn
  have h2:=ux p (E9 n m) _ _ _ hm
  rw[h1]at h2
  exact h2.symm
theorem pk {p:qt}(n:Nat):ol (ye p n) (X p):=fun _ _ _ h=>eG.2 ⟨n,h⟩
section
variable {p:qt}
theorem q2c {af:qd}{args:List qa}{hp:j8}{r:qa×Bool×j8}(hr:oU (X p) af args hp=I r):∃n,oU (ye p n) af args hp=I r:=by
 have hr0:=hr
 unfold oU at hr
 cases hb:If args.length af.ntmps with
 |false=>simp[hb]at hr
 |true=>
  simp only[hb,cT]at hr
  have key:∀ {r'},X p af.body ⟨n6 0 args,hp⟩=I r'→∃n,oU (ye p n) af args hp=I r:=by
   intro r' h
   obtain⟨n,hn⟩:=eG.1 h
   refine⟨n,?_⟩
   unfold oU
   rw[hb,hn]
   rw[h]at hr
   exact hr
  split at hr
  ·rename_i st bU;exact key bU
  ·rename_i st bU;exact key bU
  ·cases hr
theorem T4 {k:Nat}{args:List qa}{hp:j8}{r:qa×Bool×j8}(hr:zf p (X p) k args hp=I r):∃n,zf p (ye p n) k args hp=I r:=by
 unfold zf at *
 cases h:p.bj k with
 |none=>rw[h]at hr;exact⟨0,hr⟩
 |some f=>rw[h]at hr;exact q2c hr
theorem MT {k:Nat}{args:List qa}{r:qa×Bool}(hr:jy p (X p) k args=I r):∃n,jy p (ye p n) k args=I r:=by
 unfold jy at *
 cases h:p.cq k with
 |some f=>rw[h]at hr;exact⟨0,hr⟩
 |none=>
  rw[h]at hr
  simp only[]at hr ⊢
  split at hr
  ·rename_i v o hh hc
   obtain⟨n,hn⟩:=T4 hc
   exact⟨n,by rw[hn];exact hr⟩
  ·cases hr
theorem q6c {b:Nat}{args:List qa}{hp:j8}{r:qa×j8}(hr:jO (X p) b args hp=I r):∃n,jO (ye p n) b args hp=I r:=by
 unfold jO at hr
 split at hr
 ·rename_i l hl
  split at hr
  ·rename_i e vB hse
   split at hr
   ·rename_i st bU
    split at hr
    ·rename_i l1 gL
     cases jG:l1.pending.isNone with
     |false=>simp[jG]at hr
     |true=>
      simp only[jG,cT]at hr
      split at hr
      ·rename_i x bL gQ
       obtain⟨n,hn⟩:=eG.1 bU
       obtain⟨m,hm⟩:=eG.1 gQ
       refine⟨max n m,?_⟩
       have h1:=ux p (Gb n m) _ _ _ hn
       have h2:=ux p (E9 n m) _ _ _ hm
       simp only[jO,hl,vB,hse,h1,gL,jG,cT,h2]
       exact hr
      ·cases hr
    ·cases hr
   ·cases hr
  ·cases hr
 ·cases hr
theorem q4m {h0:Nat}{e:Env}{hp:j8}{md:jc}{x:qh}{l:List qh}{r:qq}(hr:iC p (X p) h0 e hp md x l=I r):∃n,iC p (ye p n) h0 e hp md x l=I r:=by
 unfold iC at hr
 split at hr
 ·rename_i k first captured vs e1 e2
  cases md with
  |bM=>
   simp only[]at hr
   cases hb:zu 0 (first++vs++captured)with
   |false=>rw[hb]at hr;cases hr
   |true=>
    rw[hb]at hr
    simp only[cT]at hr
    split at hr
    ·rename_i v o hc
     obtain⟨n,hn⟩:=MT hc
     refine⟨n,?_⟩
     simp only[iC,e1,e2,hn]
     rw[hb]
     exact hr
    ·cases hr
  |red=>
   simp only[]at hr
   split at hr
   ·rename_i us hf
    cases hb:zu 0 us with
    |false=>rw[hb]at hr;cases hr
    |true=>
     rw[hb]at hr
     simp only[cT]at hr
     split at hr
     ·rename_i v o hc
      obtain⟨n,hn⟩:=MT hc
      refine⟨n,?_⟩
      simp only[iC,e1,e2,hf,hn]
      rw[hb]
      exact hr
     ·cases hr
   ·cases hr
  |fb _=>
   simp only[]at hr
   cases he:(first++vs++captured).isEmpty with
   |true=>exact⟨0,by simp only[iC,e1,e2,he];rw[he]at hr;exact hr⟩
   |false=>
    rw[he]at hr
    simp only[cond_false]at hr
    cases hb:zu 0 (first++vs++captured)with
    |false=>rw[hb]at hr;cases hr
    |true=>
     rw[hb]at hr
     simp only[cT]at hr
     split at hr
     ·rename_i v o hc
      obtain⟨n,hn⟩:=MT hc
      refine⟨n,?_⟩
      simp only[iC,e1,e2,hn]
      rw[he,hb]
      exact hr
     ·cases hr
  |shr=>
   simp only[]at hr
   split at hr
   ·rename_i v o hh hc
    obtain⟨n,hn⟩:=T4 hc
    refine⟨n,?_⟩
    simp only[iC,e1,e2,hn]
    exact hr
   ·cases hr
 ·rename_i b vs e1 e2
  cases md with
  |shr=>
   simp only[]at hr
   split at hr
   ·rename_i v hh hc
    obtain⟨n,hn⟩:=q6c hc
    refine⟨n,?_⟩
    simp only[iC,e1,e2,hn]
    exact hr
   ·cases hr
  |_=>simp at hr
 ·cases hr
theorem q8e {h0:Nat}{al:Option (List Nat)}{e:Env}{hp:j8}{op:qw}{r:qq}(hr:j9 p (X p) h0 al e hp op=I r):∃n,j9 p (ye p n) h0 al e hp op=I r:=by
 cases op with
 |call md x l=>exact q4m hr
 |append rk sz b x y=>cases rk<;>exact⟨0,hr⟩
 |bW rk sz b z n c=>cases rk<;>exact⟨0,hr⟩
 |_=>exact⟨0,hr⟩
theorem q2y {h0:Nat}{o:qv}{st bL:qg}(hr:iD p (X p) h0 o st=I bL):∃n,iD p (ye p n) h0 o st=I bL:=by
 unfold iD at *
 cases hg:mf st.env o.guard with
 |none=>simp[hg]at hr
 |some b=>
  rw[hg]at hr
  cases b with
  |false=>exact⟨0,hr⟩
  |true=>
   simp only[]at hr ⊢
   split at hr
   ·rename_i r hs
    obtain⟨n,hn⟩:=q8e hs
    exact⟨n,by rw[hn];exact hr⟩
   ·cases hr
theorem q4x {h0:Nat}:∀ {l:List qv} {st bL:qg},fG p (X p) h0 l st=I bL→∃n,fG p (ye p n) h0 l st=I bL
 | [],_,_,hr=>⟨0,hr⟩
 |o::l,st,bL,hr=>by
  simp only[fG]at hr
  split at hr
  ·rename_i s1 h1
   obtain⟨n,hn⟩:=q2y h1
   obtain⟨m,hm⟩:=q4x hr
   refine⟨max n m,?_⟩
   simp only[fG]
   rw[qp4 (ux p (Gb n m)) hn]
   exact T3 (ux p (E9 n m)) hm
  ·cases hr
theorem q5z {na:Nat}{l:List qv}{k:Option (List Nat)}{st:qg}{r:qo×qg}(hr:mg p (X p) na l k st=I r):∃n,mg p (ye p n) na l k st=I r:=by
 unfold mg at hr
 split at hr
 ·rename_i s1 h1
  obtain⟨n,hn⟩:=q4x h1
  exact⟨n,by unfold mg;rw[hn];exact hr⟩
 ·cases hr
theorem jab {x:qh}{ps:List Nat}{a b:qe}{st:qg}{r:qo×qg}(hr:mr p (X p) x ps a b st=I r):∃n,mr p (ye p n) x ps a b st=I r:=by
 unfold mr at hr
 cases hn:(km a&&km b)with
 |false=>simp[hn]at hr
 |true=>
  simp only[hn,cT]at hr
  split at hr
  ·rename_i k first captured eg
   split at hr
   ·rename_i v o hh hc
    obtain⟨n,jX⟩:=T4 hc
    refine⟨n,?_⟩
    unfold mr
    rw[hn,eg]
    simp only[cT]
    rw[jX]
    exact hr
   ·cases hr
  ·cases hr
theorem Ao {α:Type}{x y:Option α}(h1:∀r,x=I r→y=I r)(h2:∀r,y=I r→x=I r):x=y:=by
 cases x with
 |none=>
  cases y with
  |none=>rfl
  |some r=>exact(h2 r rfl)
 |some r=>exact(h1 r rfl).symm
theorem jsq {st:qg}:X p .skip st=I (.normal,st):=eG.2 ⟨1,rfl⟩
theorem jo0 {id:Nat}{st:qg}:X p (.exit id) st=I (.exit id,st):=eG.2 ⟨1,rfl⟩
theorem j4c {st:qg}:X p .ret st=I (.ret,st):=eG.2 ⟨1,rfl⟩
theorem jji {na:Nat}{l:List qv}{k:Option (List Nat)}{st:qg}:X p (.region na l k) st=mg p (X p) na l k st:=by
 refine Ao (fun r h=>?_) (fun r h=>?_)
 ·obtain⟨n,hn⟩:=eG.1 h
  cases n with
  |zero=>simp[ye]at hn
  |succ n=>simp only[ye]at hn;exact qr6 (pk n) hn
 ·obtain⟨n,hn⟩:=q5z h
  exact eG.2 ⟨n+1,by simp only[ye];exact hn⟩
theorem T5 {x:qh}{ps:List Nat}{a b:qe}{st:qg}:X p (.rangeFunc x ps a b) st=mr p (X p) x ps a b st:=by
 refine Ao (fun r h=>?_) (fun r h=>?_)
 ·obtain⟨n,hn⟩:=eG.1 h
  cases n with
  |zero=>simp[ye]at hn
  |succ n=>simp only[ye]at hn;exact qt2 (pk n) hn
 ·obtain⟨n,hn⟩:=jab h
  exact eG.2 ⟨n+1,by simp only[ye];exact hn⟩
theorem j56 {a b:qe}{st:qg}:X p (.seq a b) st=match X p a st with
  |some (.normal,bL)=>X p b bL
  |r=>r:=by
 refine Ao (fun r h=>?_) (fun r h=>?_)
 ·obtain⟨n,hn⟩:=eG.1 h
  cases n with
  |zero=>simp[ye]at hn
  |succ n=>
   rw[ye]at hn
   split at hn
   ·rename_i gR h1;rw[pk n _ _ _ h1];exact pk n _ _ _ hn
   ·rename_i bA
    rw[pk n _ _ _ hn]
    split
    ·rename_i gR h1;cases h1;exact absurd hn (bA _)
    ·rfl
 ·split at h
  ·rename_i gR h1
   obtain⟨n,hn⟩:=eG.1 h1
   obtain⟨m,hm⟩:=eG.1 h
   refine eG.2 ⟨max n m+1,?_⟩
   rw[ye,ux p (Gb n m) _ _ _ hn]
   exact ux p (E9 n m) _ _ _ hm
  ·rename_i bA
   obtain⟨n,hn⟩:=eG.1 h
   refine eG.2 ⟨n+1,?_⟩
   rw[ye,hn]
   split
   ·rename_i gR h1;cases h1;exact absurd h (bA _)
   ·rfl
theorem jou {c:qh}{a b:qe}{st:qg}:X p (.cond c a b) st=match zc st.env c with
  |some (.bool t)=>bif t then X p a st else X p b st
  |_=>E7:=by
 refine Ao (fun r h=>?_) (fun r h=>?_)
 ·obtain⟨n,hn⟩:=eG.1 h
  cases n with
  |zero=>simp[ye]at hn
  |succ n=>
   rw[ye]at hn
   split at hn
   ·rename_i t ht
    rw[ht]
    cases t
    ·simp only[cond_false]at hn ⊢;exact pk n _ _ _ hn
    ·simp only[cT]at hn ⊢;exact pk n _ _ _ hn
   ·cases hn
 ·split at h
  ·rename_i t ht
   cases t
   ·simp only[cond_false]at h
    obtain⟨n,hn⟩:=eG.1 h
    exact eG.2 ⟨n+1,by rw[ye,ht];exact hn⟩
   ·simp only[cT]at h
    obtain⟨n,hn⟩:=eG.1 h
    exact eG.2 ⟨n+1,by rw[ye,ht];exact hn⟩
  ·cases h
theorem jlm {id:Nat}{b:qe}{st:qg}:X p (.block id b) st=match X p b st with
  |some (.exit fp,bL)=>bif Ge fp id then I (.normal,bL)else I (.exit fp,bL)
  |r=>r:=by
 refine Ao (fun r h=>?_) (fun r h=>?_)
 ·obtain⟨n,hn⟩:=eG.1 h
  cases n with
  |zero=>simp[ye]at hn
  |succ n=>
   rw[ye]at hn
   split at hn
   ·rename_i fp gR h1;rw[pk n _ _ _ h1];exact hn
   ·rename_i bA
    rw[pk n _ _ _ hn]
    split
    ·rename_i fp gR h1;cases h1;exact absurd hn (bA _ _)
    ·rfl
 ·split at h
  ·rename_i fp gR h1
   obtain⟨n,hn⟩:=eG.1 h1
   exact eG.2 ⟨n+1,by rw[ye,hn];exact h⟩
  ·rename_i bA
   obtain⟨n,hn⟩:=eG.1 h
   refine eG.2 ⟨n+1,?_⟩
   rw[ye,hn]
   split
   ·rename_i fp gR h1;cases h1;exact absurd h (bA _ _)
   ·rfl
theorem juo {b:qe}{st:qg}:X p (.loop b) st=match X p b st with
  |some (.normal,bL)=>X p (.loop b) (gc st.heap.length bL)
  |r=>r:=by
 refine Ao (fun r h=>?_) (fun r h=>?_)
 ·obtain⟨n,hn⟩:=eG.1 h
  cases n with
  |zero=>simp[ye]at hn
  |succ n=>
   rw[ye]at hn
   split at hn
   ·rename_i gR h1;rw[pk n _ _ _ h1];exact pk n _ _ _ hn
   ·rename_i bA
    rw[pk n _ _ _ hn]
    split
    ·rename_i gR h1;cases h1;exact absurd hn (bA _)
    ·rfl
 ·split at h
  ·rename_i gR h1
   obtain⟨n,hn⟩:=eG.1 h1
   obtain⟨m,hm⟩:=eG.1 h
   refine eG.2 ⟨max n m+1,?_⟩
   rw[ye,ux p (Gb n m) _ _ _ hn]
   exact ux p (E9 n m) _ _ _ hm
  ·rename_i bA
   obtain⟨n,hn⟩:=eG.1 h
   refine eG.2 ⟨n+1,?_⟩
   rw[ye,hn]
   split
   ·rename_i gR h1;cases h1;exact absurd h (bA _)
   ·rfl
theorem jqh {sz:Nat}{st:qg}:X p (.grow sz) st=match yd 0 st.env,yd 1 st.env with
   |some (.list Ef _ _,_),I (.int .i64 (.ofNat m),_)=>bif Mn 0 m&&If m 1073741824 then I (.normal,{ st with env:=[(0,.list E6 sz [],Ef)] })else E7
   |_,_=>E7:=by
 refine Ao (fun r h=>?_) (fun r h=>?_)
 ·obtain⟨n,hn⟩:=eG.1 h
  cases n with
  |zero=>simp[ye]at hn
  |succ n=>simp only[ye]at hn;exact hn
 ·exact eG.2 ⟨1,by simp only[ye];exact h⟩
theorem q3z {P:Program}(eh:qx P p){k:Nat}{args:List qa}{v:qa}{ow:Bool}(h:jy p (X p) k args=I (v,ow))(hb:zu 0 args=Ef):IsoCall P k args v ow:=by
 obtain⟨n,hn⟩:=MT h
 exact q65 eh hn hb
end
inductive jl where
 |code (c:qe)
 |seq (a b:jl)
 |cond (c:qh) (a b:jl)
 |block (id:Nat) (b:jl)
 |loop (b:jl)
 |zY (s:Nat) (c:jl)
 |shut (s sz:Nat) (c:jl)
def jl.erase:jl→qe
 | .code c=>c
 | .seq a b=>.seq a.erase b.erase
 | .cond c a b=>.cond c a.erase b.erase
 | .block id b=>.block id b.erase
 | .loop b=>.loop b.erase
 | .zY _ c=>c.erase
 | .shut _ _ c=>c.erase
def T6 (P:Program)(w0:World)(K:Nat→Nat→Option Value)(nt:Nat)(st:qg)(a:Act)(w:World):Prop:=
 a.tmps.size=nt∧∃C' ω',Marks C' w0.heap.size a.defers∧av P C' ω' w0 (.bM K) st.heap w∧aj C' ω' w w0.heap.size st.env a.tmps
theorem T6.gc {P:Program}{w0:World}{K:Nat→Nat→Option Value}{nt n:Nat}{st:qg}{a:Act}{w:World}(h:T6 P w0 K nt st a w):T6 P w0 K nt (Abs.gc n st) a w:=by
 obtain⟨h1,C',ω',h2,h3,h4⟩:=h
 unfold Abs.gc
 cases hb:If st.heap.length n with
 |true=>exact⟨h1,C',ω',h2,h3,h4⟩
 |false=>
  simp only[cond_false]
  cases lz:(mc n st.env&&kh n (st.heap.take n))with
  |false=>exact⟨h1,C',ω',h2,h3,h4⟩
  |true=>
   simp only[cT]
   simp only[E3]at lz
   have hn:n≤st.heap.length:=by
    rcases Nat.lt_or_ge n st.heap.length with h|h
    ·omega
    ·rw[Nat.ble_eq_true_of_le h]at hb;cases hb
   exact⟨h1,C'.cut n,ω',⟨h2.choose,h2.choose_spec.1,h2.choose_spec.2.1,h2.choose_spec.2.2⟩,h3.gc hn lz.2 (fun b r h=>by cases h),h4.cut lz.1⟩
section
variable {P:Program}
theorem Tabs.table {w:World}(h:Tabs P w){g:Nat}(hg:P.globalNamed nD=I g):Lib.TabIs P w nD .u64 Lib.pow10Tab:=(h g (.inl hg)).2.1 hg
theorem Tabs.length {w:World}(h:Tabs P w){g:Nat}(hg:P.globalNamed wT=I g):∃m,w.cell? ⟨g,0,E7⟩=I (.int .i64 m):=(h g (.inr (.inl hg))).2.2.1 hg
theorem Gn {k:Nat}{args:List qa}{v:qa}(h:∀(K:Nat→Nat→Option Value) (w:World) (vs:List Value),Tabs P w→(∀r o u,K r o=I u→w.cell? ⟨r,o,E7⟩=I u)→aM (.bM K) args vs →
  ∃u,bF (.bM K) v u∧Calls P k ⟨vs⟩ w fun e w'=>e=.returned u∧Ext w w'):IsoCall P k args v E6:=by
 intro K w vs ht h1 h2 hr
 obtain⟨u,hu,hc⟩:=h K w vs ht h1 hr
 refine callsIn_wide.2 (hc.mono ?_)
 rintro e w' ⟨rfl,hx⟩
 exact⟨u,K,rfl,hx,fun _ _ _ h=>h,fun _ _ _=>rfl,fun r o x hk=>hx.cell (h1 r o x hk),h2,hu,fun h=>by cases h⟩
theorem q7a {C:ay}{r:Nat}:∀ {xs:List qa} {us:List Value} {o:Nat},aM C xs us→(∀x∈xs,x.flat=[x])→(∀(j:Nat) u,us[j]?=I u→C.K r (o+j)=I u)→aX C r 1 xs o
 | [],_,o,_,_,_=>.fg _ _ _
 |x::xs,us,o,h,hf,hk=>by
  cases h with
  |cons _ _ u us hx hr=>
   have Dp:=hf x (Ha ..)
   refine .db _ _ _ _ _ (by rw[Dp];rfl) ?_ (q7a hr (fun y hy=>hf y (Gz _ hy)) fun j u hj=>?_)
   ·rw[Dp]
    exact .dh _ _ _ _ u (by have:=hk 0 u rfl;simpa using this) hx (.gK _ _)
   ·have:=hk (j+1) u (by simpa using hj)
    rw[show o+1+j=o+(j+1) by omega]
    exact this
theorem jdu {k:Nat}{args:List qa}{xs:List qa}{us:List Value}{t:TypeId}(hf:∀x∈xs,x.flat=[x])(gy:∀K,aM (.bM K) xs us)(h1u:∀u∈us,u.oneCell'=Ef)
  (h:∀(K:Nat→Nat→Option Value) (w:World) (vs:List Value),Tabs P w→(∀r o u,K r o=I u→w.cell? ⟨r,o,E7⟩=I u)→aM (.bM K) args vs →
  Calls P k ⟨vs⟩ w fun e w'=>e=.returned (.slice (I ⟨w.heap.size,0,E7⟩) xs.length xs.length)∧w'=w.alloc (.cells us.toArray t)):IsoCall P k args (.list E6 1 xs) E6:=by
 intro K w vs ht h1 h2 hr
 refine callsIn_wide.2 ((h K w vs ht h1 hr).mono ?_)
 rintro e w' ⟨rfl,rfl⟩
 have hx:Ext w (w.alloc (.cells us.toArray t)):=Ext.alloc w _ (fun c t fr h=>by cases h;rfl)
 have FX:∀o u,K w.heap.size o=I u→False:=fun o u hk=>by
  have:=h1 _ _ _ hk
  simp only[World.cell?,Array.getElem?_eq_none (Nat.le_refl _)]at this
  cases this
 refine⟨_,fun r o=>if r=w.heap.size then us[o]? else K r o,rfl,hx,?_,?_,?_,?_,?_,fun h=>by cases h⟩
 ·intro r o x hk
  have bA:r≠w.heap.size:=fun e=>FX o x (e▸hk)
  simp only[if_neg bA];exact hk
 ·intro r o aY
  have bA:r≠w.heap.size:=by omega
  simp only[if_neg bA]
 ·intro r o x hk
  simp only[]at hk
  split at hk
  ·next hr=>
   subst hr
   have hg:(w.alloc (.cells us.toArray t)).heap[w.heap.size]?=I (.cells us.toArray t):=by rw[vk,if_pos rfl]
   simp only[World.cell?]
   rw[hg]
   simpa using hk
  ·exact hx.cell (h1 r o x hk)
 ·intro r o x hk
  simp only[]at hk
  split at hk
  ·exact h1u x (Gd hk)
  ·exact h2 r o x hk
 ·refine .list _ _ _ _ _ (Nat.le_refl _) (q7a (gy _) hf fun j u hj=>?_)
  show(if w.heap.size=w.heap.size then us[0+j]? else K w.heap.size (0+j))=I u
  rw[if_pos rfl,Nat.zero_add];exact hj
theorem IsoCall.shr {k:Nat}{args:List qa}{v:qa}{ow:Bool}(h:IsoCall P k args v ow)(hb:zu 0 args=Ef)(hp:lU v=Ef)(eh:j8):zW P k args eh v E6 eh:=by
 intro C ω w vs hr m
 have jD:aM (.bM C.K) args vs:=qp.shift (C:=C) (C':=.bM C.K) 0 (fun _ _ _ h=>h) (fun b r aY=>by omega) hr hb
 refine CallsIn.mono (h C.K w vs m.tabs m.know m.cR jD) ?_
 rintro e w' ⟨u,K',rfl,q1,q2,q3,q4,q5,q6,_⟩
 refine⟨u,{ C with K:=K' },ω,rfl,⟨q2,fun _ _ h=>h,rfl,fun _ h=>h,fun _ h=>h⟩,m.bM q1 q2 q3 q4 q5,?_,fun h=>by cases h⟩
 exact qp.shift (C:=.bM K') (C':={ C with K:=K' }) 0 (fun _ _ _ h=>h) (fun b r aY=>by omega) q6 hp
end
open Go
def DJ:List UInt8→List UInt8→Bool
 | [],[]=>Ef
 |a::l,b::m=>bif Ge a.toNat b.toNat then DJ l m else E6
 |_,_=>E6
theorem qp2:∀ {l m:List UInt8},DJ l m=Ef→l=m
 | [],[],_=>rfl
 | [],_::_,h=>by simp[DJ]at h
 |_::_,[],h=>by simp[DJ]at h
 |a::l,b::m,h=>by
  simp only[DJ,E4]at h
  split at h
  ·next hb=>rw[UInt8.toNat_inj.1 (En hb),qp2 h]
  ·exact absurd h (by simp)
def MU:Int→Int→Bool
 | .ofNat a,.ofNat b=>Ge a b
 | .negSucc a,.negSucc b=>Ge a b
 |_,_=>E6
theorem q57:∀ {a b:Int},MU a b=Ef→a=b
 | .ofNat _,.ofNat _,h=>by rw[En h]
 | .negSucc _,.negSucc _,h=>by rw[En h]
 | .ofNat _,.negSucc _,h=>by simp[MU]at h
 | .negSucc _,.ofNat _,h=>by simp[MU]at h
mutual
def iF:qa→qa→Bool
 | .bool a,.bool b=>a == b
 | .int k a,.int k' b=>bif decide (k=k')then MU a b else E6
 | .str a,.str b=>DJ a b
 | .list a n xs,.list b m ys=>bif a == b then bif Ge n m then uy xs ys else E6 else E6
 | .agg xs,.agg ys=>uy xs ys
 | .aB xs,.aB ys=>uy xs ys
 |_,_=>E6
def uy:List qa→List qa→Bool
 | [],[]=>Ef
 |a::l,b::m=>bif iF a b then uy l m else E6
 |_,_=>E6
end
mutual
theorem q0b:∀ {a b:qa},iF a b=Ef→a=b:=by
 intro a b h
 match a,b with
 | .bool _,.bool _=>simp only[iF,beq_iff_eq]at h;rw[h]
 | .int k a,.int k' b=>
  simp only[iF,E4,decide_eq_true_eq]at h
  split at h
  ·next hk=>rw[hk,q57 h]
  ·exact absurd h (by simp)
 | .str _,.str _=>simp only[iF]at h;rw[qp2 h]
 | .list a n xs,.list b m ys=>
  simp only[iF,E4,beq_iff_eq]at h
  split at h
  ·next h1=>
   split at h
   ·next h2=>rw[h1,En h2,DK h]
   ·exact absurd h (by simp)
  ·exact absurd h (by simp)
 | .agg _,.agg _=>simp only[iF]at h;rw[DK h]
 | .aB _,.aB _=>simp only[iF]at h;rw[DK h]
 | .bool _,.int .. | .bool _,.str _ | .bool _,.list .. | .bool _,.agg _ | .bool _,.aB _=>simp[iF]at h
 | .int ..,.bool _ | .int ..,.str _ | .int ..,.list .. | .int ..,.agg _ | .int ..,.aB _=>simp[iF]at h
 | .str _,.bool _ | .str _,.int .. | .str _,.list .. | .str _,.agg _ | .str _,.aB _=>simp[iF]at h
 | .list ..,.bool _ | .list ..,.int .. | .list ..,.str _ | .list ..,.agg _ | .list ..,.aB _=>simp[iF]at h
 | .agg _,.bool _ | .agg _,.int .. | .agg _,.str _ | .agg _,.list .. | .agg _,.aB _=>simp[iF]at h
 | .aB _,.bool _ | .aB _,.int .. | .aB _,.str _ | .aB _,.list .. | .aB _,.agg _=>simp[iF]at h
 | .ms ..,_ | .ptr ..,_ | .ah _,_ | .cE _,_ | .bO,_ | .map _,_ | .bN,_ | .fn ..,_ | .bY,_ | .undef,_ | .any,_ | .ak ..,_ | .cJ ..,_=>simp[iF]at h
 | .bool _,.ms .. | .bool _,.ptr .. | .bool _,.ah _ | .bool _,.cE _ | .bool _,.bO | .bool _,.map _ | .bool _,.bN | .bool _,.fn .. | .bool _,.bY | .bool _,.undef | .bool _,.ak .. | .bool _,.cJ ..=>simp[iF]at h
 | .int ..,.ms .. | .int ..,.ptr .. | .int ..,.ah _ | .int ..,.cE _ | .int ..,.bO | .int ..,.map _ | .int ..,.bN | .int ..,.fn .. | .int ..,.bY | .int ..,.undef | .int ..,.ak .. | .int ..,.cJ ..=>simp[iF]at h
 | .str ..,.ms .. | .str ..,.ptr .. | .str ..,.ah _ | .str ..,.cE _ | .str ..,.bO | .str ..,.map _ | .str ..,.bN | .str ..,.fn .. | .str ..,.bY | .str ..,.undef | .str ..,.ak .. | .str ..,.cJ ..=>simp[iF]at h
 | .list ..,.ms .. | .list ..,.ptr .. | .list ..,.ah _ | .list ..,.cE _ | .list ..,.bO | .list ..,.map _ | .list ..,.bN | .list ..,.fn .. | .list ..,.bY | .list ..,.undef | .list ..,.ak .. | .list ..,.cJ ..=>simp[iF]at h
 | .agg ..,.ms .. | .agg ..,.ptr .. | .agg ..,.ah _ | .agg ..,.cE _ | .agg ..,.bO | .agg ..,.map _ | .agg ..,.bN | .agg ..,.fn .. | .agg ..,.bY | .agg ..,.undef | .agg ..,.ak .. | .agg ..,.cJ ..=>simp[iF]at h
 | .aB ..,.ms .. | .aB ..,.ptr .. | .aB ..,.ah _ | .aB ..,.cE _ | .aB ..,.bO | .aB ..,.map _ | .aB ..,.bN | .aB ..,.fn .. | .aB ..,.bY | .aB ..,.undef | .aB ..,.ak .. | .aB ..,.cJ ..=>simp[iF]at h
theorem DK:∀ {l m:List qa},uy l m=Ef→l=m:=by
 intro l m h
 match l,m with
 | [],[]=>rfl
 | [],_::_=>simp[uy]at h
 |_::_,[]=>simp[uy]at h
 |a::l,b::m=>
  simp only[uy,E4]at h
  split at h
  ·next h1=>rw[q0b h1,DK h]
  ·exact absurd h (by simp)
end
abbrev Row:=List qa×qa×Bool
def yV (args:List qa):List Row→Option (qa×Bool)
 | []=>E7
 |r::l=>bif uy r.1 args then I r.2 else yV args l
theorem LQ {args:List qa}{x:qa×Bool}:∀ {l:List Row},yV args l=I x→(args,x)∈l
 | [],h=>by simp[yV]at h
 |r::l,h=>by
  simp only[yV,E4]at h
  split at h
  ·next hb=>
   simp only[I.injEq]at h
   rw[←DK hb,←h]
   exact Ha ..
  ·exact Gz _ (LQ h)
def q14 (tab:Nat→Option (List Row)):vh:=fun k=>(tab k).map fun l args=>yV args l
def LP (P:Program)(tab:Nat→Option (List Row)):Prop:=
 ∀k l,tab k=I l→∀r∈l,IsoCall P k r.1 r.2.1 r.2.2
def wK:List (Nat×List Row)→Nat→Option (List Row)
 | [],_=>E7
 |(k,l)::t,n=>bif Ge k n then I l else wK t n
def T7 (P:Program)(k:Nat):List Row→Prop
 | []=>True
 |r::l=>IsoCall P k r.1 r.2.1 r.2.2∧T7 P k l
def jcl (P:Program):List (Nat×List Row)→Prop
 | []=>True
 |(k,l)::t=>T7 P k l∧jcl P t
theorem q17 {P:Program}{k:Nat}:∀ {l:List Row},T7 P k l→∀r∈l,IsoCall P k r.1 r.2.1 r.2.2
 |r::l,h,x,hx=>by
  cases hx with
  |head=>exact h.1
  |tail _ hx=>exact q17 h.2 x hx
theorem RO {P:Program}:∀ {t:List (Nat×List Row)},jcl P t→LP P (wK t)
 |(j,m)::t,h,k,l,hk=>by
  simp only[wK,E4]at hk
  split at hk
  ·next hb=>
   rw[En hb]at h
   simp only[I.injEq]at hk
   subst hk
   exact q17 h.1
  ·exact RO h.2 k l hk
theorem j5j {P:Program}{t:jb}{tab:Nat→Option (List Row)}{M:LU}(h:qx P (t.prog (fun _=>E7) M))(ht:LP P tab)(he:∀k l,tab k=I l→Enters P k):qx P (t.prog (q14 tab) M) where
 fn:=h.fn
 gG:=by
  intro k f hf
  simp only[jb.prog,q14,Option.map_eq_some_iff]at hf
  obtain⟨l,hl,rfl⟩:=hf
  refine⟨he k l hl,fun args v o hv _ _=>ht k l hl _ (LQ hv)⟩
 mixed:=h.mixed
 maps:=h.maps
theorem qvq {P:Program}{p:qt}(h:qx P p){n k b:Nat}{ow:Bool}{h1:j8}{es:List (qa×qa)}(hr:zf p (hZ p n) k [] []=I (.map b,ow,h1))(hb:h1[b]?=I (.map es))(he:tV 0 es=Ef):Enters P k∧S4 P k es:=
 jaw h (cg.F9 (MI h n).1) (by rw[←MO];exact hr) hb he
theorem za {P:Program}{p:qt}(h:qx P p){n k:Nat}{args:List qa}{v:qa}{o:Bool}(hr:jy p (hZ p n) k args=some (v,o))(hb:zu 0 args=true:=by rfl):IsoCall P k args v o:=
 q65 h (jc2 hr) hb
end Go.Abs
