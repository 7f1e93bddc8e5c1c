/- The executor for the kernel's run. -/
import Derived.Test.YtfopaakmgogpiaaGreatDoorAbsG
import Derived.ProofKit
import Derived.OpenShut
import Derived.ShutString
set_option linter.unusedVariables false
set_option linter.unusedSimpArgs false
open Option renaming some→I,none→E6,bind_some→Hv
open Bool renaming true→Eh,and_eq_true→Eo,cond_eq_ite→Ev,false→E5
open Nat renaming eq_of_beq_eq_true→El,le_max_right→E7,le_max_left→Gb,beq→Gi,succ_mul→Gn,ble→Ht,blt→Iu
open List renaming getElem?_range→En,range→Ga,length_eq_zero_iff→Gc,mem_of_getElem?→Gh,getElem?_eq_some_iff→Gk,mem_cons_of_mem→Gl,mem_cons_self→Gm,flatten_cons→Gp,length_range→Ha,getElem?_map→Hb,mem_append→If,drop_drop→Ip,map_cons→I6,all_cons→I7
namespace Go.Abs
def hZ {α:Type}(n:Nat)(f:Nat→α):α:=match n with
 |0=>f 0
 |m+1=>f (Nat.succ m)
def TS {α:Type}(n:Int)(f:Int→α):α:=match n with
 | .ofNat a=>hZ a fun a=>f (.ofNat a)
 | .negSucc a=>hZ a fun a=>f (.negSucc a)
def Gq {α:Type}(b:Bool)(f:Bool→α):α:=match b with
 |true=>f Eh
 |false=>f E5
def qz5 {α:Type}(k:IntKind)(f:IntKind→α):α:=match k with
 | .i8=>f .i8 | .i16=>f .i16 | .i32=>f .i32 | .i64=>f .i64 | .u8=>f .u8 | .u16=>f .u16 | .u32=>f .u32 | .u64=>f .u64
def Gr {α:Type}:List UInt8→(List UInt8→α)→α
 | [],f=>f []
 |c::s,f=>Gr s fun s=>f (c::s)
def TT {α:Type}(g:Fn)(f:Fn→α):α:=match g with
 | .func k=>hZ k fun k=>f (.func k)
 | .yield k=>hZ k fun k=>f (.yield k)
 |g=>f g
mutual
def gF {α:Type}:qa→(qa→α)→α
 | .bool b,f=>Gq b fun b=>f (.bool b)
 | .int k n,f=>qz5 k fun k=>TS n fun n=>f (.int k n)
 | .str s,f=>Gr s fun s=>f (.str s)
 | .list b sz xs,f=>Gq b fun b=>hZ sz fun sz=>vQ xs fun xs=>f (.list b sz xs)
 | .ms b o l,f=>hZ b fun b=>hZ o fun o=>hZ l fun l=>f (.ms b o l)
 | .ptr b o,f=>hZ b fun b=>hZ o fun o=>f (.ptr b o)
 | .ah v,f=>gF v fun v=>f (.ah v)
 | .cE n,f=>hZ n fun n=>f (.cE n)
 | .bN,f=>f .bN
 | .map b,f=>hZ b fun b=>f (.map b)
 | .bM,f=>f .bM
 | .fn g a c,f=>TT g fun g=>vQ a fun a=>vQ c fun c=>f (.fn g a c)
 | .bX,f=>f .bX
 | .agg cs,f=>vQ cs fun cs=>f (.agg cs)
 | .az cs,f=>vQ cs fun cs=>f (.az cs)
 | .undef,f=>f .undef
 | .any,f=>f .any
 | .au b bu len,f=>hZ b fun b=>hZ bu fun bu=>hZ len fun len=>f (.au b bu len)
 | .dk b bu off,f=>hZ b fun b=>hZ bu fun bu=>hZ off fun off=>f (.dk b bu off)
def vQ {α:Type}:List qa→(List qa→α)→α
 | [],f=>f []
 |x::xs,f=>gF x fun x=>vQ xs fun xs=>f (x::xs)
end
def Gs {α:Type}:Env→(Env→α)→α
 | [],f=>f []
 |(t,v,o)::e,f=>hZ t fun t=>gF v fun v=>Gq o fun o=>Gs e fun e=>f ((t,v,o)::e)
def MU {α:Type}:List (qa×Bool)→(List (qa×Bool)→α)→α
 | [],f=>f []
 |(v,o)::e,f=>gF v fun v=>Gq o fun o=>MU e fun e=>f ((v,o)::e)
def MV {α:Type}:List (qa×qa)→(List (qa×qa)→α)→α
 | [],f=>f []
 |(k,v)::e,f=>gF k fun k=>gF v fun v=>MV e fun e=>f ((k,v)::e)
def TU {α:Type}(x:Option qo)(f:Option qo→α):α:=match x with
 |none=>f E6
 |some .normal=>f (I .normal)
 |some (.exit id)=>hZ id fun id=>f (I (.exit id))
 |some .ret=>f (I .ret)
def TV {α:Type}:qm→(qm→α)→α
 | .hole,f=>f .hole
 | .cells cs,f=>MU cs fun cs=>f (.cells cs)
 | .map es,f=>MV es fun es=>f (.map es)
 | .iter s pos,f=>hZ pos fun pos=>f (.iter s pos)
 | .fD t e l,f=>Gr l fun l=>f (.fD t e l)
 | .dead,f=>f .dead
 -- (what a vector holds was forced when it was appended)
 | .vec sz bu xs,f=>hZ sz fun sz=>hZ bu fun bu=>f (.vec sz bu xs)
 | .loop l,f=>Gs l.env fun e=>TU l.pending fun x=>f (.loop ⟨e,l.params,l.assign,l.body,x⟩)
def MW {α:Type}:j8→(j8→α)→α
 | [],f=>f []
 |b::h,f=>TV b fun b=>MW h fun h=>f (b::h)
def Gt {α:Type}(st:qh)(f:qh→α):α:=Gs st.env fun e=>MW st.heap fun h=>f ⟨e,h⟩
section
variable {α:Type}
theorem pe (n:Nat)(f:Nat→α):hZ n f=f n:=by cases n<;>rfl
theorem q44 (n:Int)(f:Int→α):TS n f=f n:=by cases n<;>simp[TS,pe]
theorem MX (n:Bool)(f:Bool→α):Gq n f=f n:=by cases n<;>rfl
theorem q10 (n:IntKind)(f:IntKind→α):qz5 n f=f n:=by cases n<;>rfl
theorem TW:∀ (s:List UInt8) (f:List UInt8→α),Gr s f=f s
 | [],_=>rfl
 |c::s,f=>by simp only[Gr];rw[TW s]
theorem q74 (g:Fn)(f:Fn→α):TT g f=f g:=by cases g<;>simp[TT,pe]
mutual
theorem Gu:∀ (v:qa) (f:qa→α),gF v f=f v
 | .bool b,f=>by simp only[gF,MX]
 | .int k n,f=>by simp only[gF,q10,q44]
 | .str s,f=>by simp only[gF,TW]
 | .list b sz xs,f=>by simp only[gF,MX,pe];rw[Aw xs]
 | .ms b o l,f=>by simp only[gF,pe]
 | .ptr b o,f=>by simp only[gF,pe]
 | .ah v,f=>by simp only[gF];rw[Gu v]
 | .cE n,f=>by simp only[gF,pe]
 | .bN,f=>by simp only[gF]
 | .map b,f=>by simp only[gF,pe]
 | .bM,f=>by simp only[gF]
 | .fn g a c,f=>by simp only[gF,q74];rw[Aw a,Aw c]
 | .bX,f=>by simp only[gF]
 | .agg cs,f=>by simp only[gF];rw[Aw cs]
 | .az cs,f=>by simp only[gF];rw[Aw cs]
 | .undef,f=>by simp only[gF]
 | .any,f=>by simp only[gF]
 | .au b bu len,f=>by simp only[gF,pe]
 | .dk b bu off,f=>by simp only[gF,pe]
theorem Aw:∀ (l:List qa) (f:List qa→α),vQ l f=f l
 | [],f=>by simp only[vQ]
 |x::xs,f=>by simp only[vQ];rw[Gu x,Aw xs]
end
theorem TX:∀ (e:Env) (f:Env→α),Gs e f=f e
 | [],_=>rfl
 |(t,v,o)::e,f=>by simp only[Gs,pe,Gu,MX];rw[TX e]
theorem qpw:∀ (e:List (qa×Bool)) (f:List (qa×Bool)→α),MU e f=f e
 | [],_=>rfl
 |(v,o)::e,f=>by simp only[MU,Gu,MX];rw[qpw e]
theorem ql0:∀ (e:List (qa×qa)) (f:List (qa×qa)→α),MV e f=f e
 | [],_=>rfl
 |(v,o)::e,f=>by simp only[MV,Gu];rw[ql0 e]
theorem q14 (x:Option qo)(f:Option qo→α):TU x f=f x:=by
 cases x with
 |none=>rfl
 |some x=>cases x<;>simp[TU,pe]
theorem q4o (b:qm)(f:qm→α):TV b f=f b:=by
 cases b<;>simp[TV,qpw,ql0,pe,TW,TX,q14,Aw]
theorem qqt:∀ (h:j8) (f:j8→α),MW h f=f h
 | [],_=>rfl
 |b::h,f=>by simp only[MW,q4o];rw[qqt h]
theorem TY (st:qh)(f:qh→α):Gt st f=f st:=by simp only[Gt,TX,qqt]
end
def ib (p:qr):Nat→XC
 |0,_,_=>E6
 |n+1,c,st=>match c with
  | .skip=>I (.normal,st)
  | .region na ops keep=>match mr p (ib p n) na ops keep st with
   |some (x,bK)=>Gt bK fun s=>I (x,s)
   |none=>E6
  | .seq a b=>match ib p n a st with
   |some (.normal,bK)=>ib p n b bK
   |r=>r
  | .cond c a b=>match zd st.env c with
   |some (.bool t)=>bif t then ib p n a st else ib p n b st
   |_=>E6
  | .block id body=>match ib p n body st with
   |some (.exit fp,bK)=>bif Gi fp id then I (.normal,bK)else I (.exit fp,bK)
   |r=>r
  | .loop body=>match ib p n body st with
   |some (.normal,bK)=>Gt (gc st.heap.length bK) fun s=>ib p n (.loop body) s
   |r=>r
  | .rangeFunc f params assign body=>match mA p (ib p n) f params assign body st with
   |some (x,bK)=>Gt bK fun s=>I (x,s)
   |none=>E6
  | .exit id=>I (.exit id,st)
  | .ret=>I (.ret,st)
  | .grow sz=>match ye 0 st.env,ye 1 st.env with
   |some (.list Eh _ _,_),I (.int .i64 (.ofNat m),_)=>bif Iu 0 m&&Ht m 1073741824 then I (.normal,{ st with env:=[(0,.list E5 sz [],Eh)] })else E6
   |_,_=>E6
  | .stuck=>E6
theorem MY (p:qr):∀n,ib p n=yf p n
 |0=>by funext c st;rfl
 |n+1=>by
  have ih:=MY p n
  funext c st
  cases c with
  |region na ops keep=>
   simp only[ib,yf,ih]
   cases mr p (yf p n) na ops keep st with
   |none=>rfl
   |some r=>simp only[TY]
  |rangeFunc f ps a b=>
   simp only[ib,yf,ih]
   cases mA p (yf p n) f ps a b st with
   |none=>rfl
   |some r=>simp only[TY]
  |loop body=>
   simp only[ib,yf,ih,TY]
   rfl
  |_=>simp only[ib,yf,ih]<;>rfl
inductive jb where
 |leaf (k:Nat) (f:qd)
 |node (m:Nat) (a b:jb)
def jb.find:jb→Nat→Option qd
 | .leaf k f,n=>bif Gi k n then I f else E6
 | .node m a b,n=>bif Iu n m then a.find n else b.find n
def jb.All (Q:Nat→qd→Prop):jb→Prop
 | .leaf k f=>Q k f
 | .node _ a b=>a.All Q∧b.All Q
theorem jb.fM {Q:Nat→qd→Prop}:∀ {t:jb} {k:Nat} {f:qd},t.All Q→t.find k=I f→Q k f
 | .leaf j g,k,f,h,hf=>by
  simp only[jb.find]at hf
  cases hb:Gi j k with
  |false=>simp[hb]at hf
  |true=>
   have:=El hb
   subst this
   simp only[hb,cT,I.injEq]at hf
   subst hf;exact h
 | .node m a b,k,f,h,hf=>by
  simp only[jb.find]at hf
  cases hb:Iu k m with
  |true=>simp only[hb,cT]at hf;exact jb.fM h.1 hf
  |false=>simp only[hb,cond_false]at hf;exact jb.fM h.2 hf
def jb.prog (t:jb)(cq:vA)(maps:L5:=fun _=>E6):qr:={ bH:=t.find,cq:=cq,maps:=maps }
theorem jbg {p:qr}{n k:Nat}{args:List qa}{r:Option (qa×Bool)}(h:jz p (ib p n) k args=r):jz p (yf p n) k args=r:=by
 rw[←MY];exact h
def Kw (w:World):Nat→Nat→Option Value:=fun r o=>(w.cell? ⟨r,o,E6⟩).filter (·.oneCell')
theorem j2m {w:World}{r o:Nat}{v:Value}(h:w.cell? ⟨r,o,E6⟩=I v)(h1:v.oneCell'=Eh):Kw w r o=I v:=by simp[Kw,h,h1]
theorem q6h {w:World}{r o:Nat}{v:Value}(h:Kw w r o=I v):w.cell? ⟨r,o,E6⟩=I v∧v.oneCell'=Eh:=by
 unfold Kw at h;rw[Option.filter_eq_some_iff]at h;exact h
def qhd (P:Program)(t:TypeId):Bool:=match P.underlying t with
 |some (.struct _)=>Eh
 |some (.array _ _)=>Eh
 |_=>E5
def MZ (P:Program):Nat→List Field→Bool
 |_,[]=>Eh
 |o,f::fs=>f.offset == o&&MZ P (o+P.cellsOf f.type) fs
def M0 (P:Program)(fs:List Field):Nat:=(fs.map fun f=>P.cellsOf f.type).sum
def qP (P:Program):Nat→TypeId→Bool
 |0,_=>E5
 |n+1,t=>match P.underlying t with
  |some .bool=>P.cellsOf t == 1
  |some (.int _)=>P.cellsOf t == 1
  |some .string=>P.cellsOf t == 1
  |some (.slice e)=>P.cellsOf t == 1&&qP P n e&&decide (0<P.cellsOf e)
  |some (.struct fs)=>MZ P 0 fs.toList&&M0 P fs.toList == P.cellsOf t&&fs.toList.all fun f=>qP P n f.type
  |some (.array k e)=>P.cellsOf t == k*P.cellsOf e&&qP P n e
  |_=>E5
def Gv (ty:TypeId→List qa→Prop):List Field→List qa→Prop
 | [],cs=>cs=[]
 |f::fs,cs=>∃ys zs,cs=ys++zs∧ty f.type ys∧Gv ty fs zs
def Gw (ty:List qa→Prop):Nat→List qa→Prop
 |0,cs=>cs=[]
 |k+1,cs=>∃ys zs,cs=ys++zs∧ty ys∧Gw ty k zs
def qaw (P:Program):Nat→TypeId→List qa→Prop
 |0,_,_=>False
 |n+1,t,cs=>match P.underlying t with
  |some .bool=>∃b,cs=[.bool b]
  |some (.int k)=>∃m,cs=[.int k m]∧(Lit.int k m).wf=Eh
  |some .string=>∃s,cs=[.str s]∧s.length≤maxLen
  |some (.slice e)=>cs=[.list Eh 0 []]∨∃xs,cs=[.list E5 (P.cellsOf e) xs]∧xs.length≤maxLen∧∀y∈xs,qaw P n e y.flat∧y.isAgg=qhd P e
  |some (.struct fs)=>Gv (qaw P n) fs.toList cs
  |some (.array k e)=>Gw (qaw P n e) k cs
  |_=>False
section
variable {P:Program}{H:Type}{enc:TypeId×Value→H}{w:World}
theorem qzt:∀ (fs:List Field) (o:Nat) (vs:List Value),MZ P o fs=Eh→vs.length=o+M0 P fs→vs.drop o=(fs.map fun f=>(vs.drop f.offset).take (P.cellsOf f.type)).flatten
 | [],o,vs,_,hl=>by simp[M0]at hl;simp[hl]
 |f::fs,o,vs,ht,hl=>by
  simp only[MZ,Eo,beq_iff_eq]at ht
  obtain⟨rfl,ht⟩:=ht
  have ih:=qzt fs _ vs ht (by simp[M0]at hl ⊢;omega)
  rw[I6,Gp,←ih,←Ip,List.take_append_drop]
theorem DM {α β:Type}{f:α→Option β}:∀ {l:List α} {ys:List β},l.mapM f=I ys→ys.length=l.length∧∀(i:Nat) (x:α),l[i]?=I x→∃y,ys[i]?=I y∧f x=I y
 | [],ys,h=>by simp at h;subst h;simp
 |a::l,ys,h=>by
  rw[List.mapM_cons]at h
  cases hf:f a with
  |none=>simp[hf]at h
  |some y=>
   cases hr:l.mapM f with
   |none=>simp[hf,hr]at h
   |some zs=>
    simp[hf,hr]at h
    subst h
    obtain⟨h1,h2⟩:=DM hr
    refine⟨by simp[h1],fun i x hx=>?_⟩
    cases i with
    |zero=>simp at hx;subst hx;exact⟨y,rfl,hf⟩
    |succ i=>simp at hx;obtain⟨z,h3,h4⟩:=h2 i x hx;exact⟨z,by simpa using h3,h4⟩
theorem q23 {base n:Nat}{a:Addr}{vs:List Value}(h:w.cells? base a n=I vs):vs.length=n∧∀(i:Nat) (v:Value),vs[i]?=I v→w.cell? (a.add i)=I v:=by
 unfold World.cells? at h
 split at h
 ·obtain⟨h1,h2⟩:=DM h
  rw[Ha]at h1
  refine⟨h1,fun i v hv=>?_⟩
  have hi:i<n:=by rw[←h1];exact(Gk.1 hv).1
  obtain⟨y,h3,h4⟩:=h2 i i (by rw[En hi])
  rw[hv]at h3;cases h3;exact h4
 ·cases h
theorem qxm {ty:TypeId→List qa→Prop}:∀(fs:List Field) (mP:List (List Value)),mP.length=fs.length→(∀(i:Nat) (f:Field) (vs:List Value),fs[i]?=I f→mP[i]?=I vs→∃cs,aK (.bL (Kw w)) cs vs∧ty f.type cs)→∃cs,aK (.bL (Kw w)) cs mP.flatten∧Gv ty fs cs
 | [],mP,hl,_=>by
  have:mP=[]:=Gc.1 (by simpa using hl)
  subst this
  exact⟨[],.nil,rfl⟩
 |f::fs,[],hl,_=>by simp at hl
 |f::fs,vs::mP,hl,h=>by
  obtain⟨ys,h1,h2⟩:=h 0 f vs rfl rfl
  obtain⟨zs,h3,h4⟩:=qxm fs mP (by simpa using hl) (fun i f' pX hf hv=>h (i+1) f' pX (by simpa using hf) (by simpa using hv))
  exact⟨ys++zs,aK.append h1 h3,ys,zs,rfl,h2,h4⟩
theorem qtx {ty:List qa→Prop}:∀(k:Nat) (mP:List (List Value)),mP.length=k→(∀(i:Nat) vs,mP[i]?=I vs→∃cs,aK (.bL (Kw w)) cs vs∧ty cs)→∃cs,aK (.bL (Kw w)) cs mP.flatten∧Gw ty k cs
 |0,mP,hl,_=>by
  have:mP=[]:=Gc.1 hl
  subst this
  exact⟨[],.nil,rfl⟩
 |k+1,[],hl,_=>by simp at hl
 |k+1,vs::mP,hl,h=>by
  obtain⟨ys,h1,h2⟩:=h 0 vs rfl
  obtain⟨zs,h3,h4⟩:=qtx k mP (by simpa using hl) (fun i pX hv=>h (i+1) pX (by simpa using hv))
  exact⟨ys++zs,aK.append h1 h3,ys,zs,rfl,h2,h4⟩
theorem q52 (n:Nat):∀(k:Nat) (vs:List Value),vs.length=k*n→vs=((Ga k).map fun i=>(vs.drop (i*n)).take n).flatten
 |0,vs,hl=>by
  have:vs=[]:=Gc.1 (by simpa using hl)
  simp[this]
 |k+1,vs,hl=>by
  have ih:=q52 n k (vs.drop n) (by simp[hl,Gn])
  rw[List.range_succ_eq_map,I6,Gp,List.map_map]
  have e:(Ga k).map ((fun i=>(vs.drop (i*n)).take n) ∘ Nat.succ)=(Ga k).map fun i=>((vs.drop n).drop (i*n)).take n:=by
   apply List.map_congr_left
   intro i _
   simp only[Function.comp,Ip]
   congr 2
   rw[Gn];omega
  rw[e,←ih]
  simp
theorem T0:∀ {n:Nat} {t:TypeId} {cs:List qa},qaw P n t cs→∀x∈cs,ze x=Eh
 |0,_,_,h=>h.elim
 |n+1,t,cs,h=>by
  have fsc:∀(fs:List Field) (cs:List qa),Gv (qaw P n) fs cs→∀x∈cs,ze x=Eh:=by
   intro fs
   induction fs with
   |nil=>intro cs h;simp only[Gv]at h;subst h;simp
   |cons f fs ih=>
    rintro cs ⟨ys,zs,rfl,h1,h2⟩ x hx
    rcases If.1 hx with hx|hx
    ·exact T0 h1 x hx
    ·exact ih _ h2 x hx
  have rsc:∀(e:TypeId) (k:Nat) (cs:List qa),Gw (qaw P n e) k cs→∀x∈cs,ze x=Eh:=by
   intro e k
   induction k with
   |zero=>intro cs h;simp only[Gw]at h;subst h;simp
   |succ k ih=>
    rintro cs ⟨ys,zs,rfl,h1,h2⟩ x hx
    rcases If.1 hx with hx|hx
    ·exact T0 h1 x hx
    ·exact ih _ h2 x hx
  simp only[qaw]at h
  split at h
  ·obtain⟨b,rfl⟩:=h;simp[ze]
  ·obtain⟨m,rfl,_⟩:=h;simp[ze]
  ·obtain⟨s,rfl,_⟩:=h;simp[ze]
  ·rcases h with rfl|⟨xs,rfl,_⟩<;>simp[ze]
  ·exact fsc _ _ h
  ·exact rsc _ _ _ h
  ·exact h.elim
theorem qw4 {n:Nat}{t:TypeId}{cs:List qa}(h:qaw P n t cs)(ha:qhd P t=E5):∃x,cs=[x]∧x.isAgg=E5:=by
 cases n with
 |zero=>exact h.elim
 |succ n=>
  unfold qhd at ha
  simp only[qaw]at h
  split at h
  ·obtain⟨b,rfl⟩:=h;exact⟨_,rfl,rfl⟩
  ·obtain⟨m,rfl,_⟩:=h;exact⟨_,rfl,rfl⟩
  ·obtain⟨s,rfl,_⟩:=h;exact⟨_,rfl,rfl⟩
  ·rcases h with rfl|⟨xs,rfl,_⟩<;>exact⟨_,rfl,rfl⟩
  ·rename_i hu;rw[hu]at ha;cases ha
  ·rename_i hu;rw[hu]at ha;cases ha
  ·exact h.elim
theorem read {held:Bool}:∀(n fuel:Nat) (t:TypeId) (vs:List Value) (d:DataW H) (ps:List MemPlace),qP P n t=Eh→DataW.trod enc P w 0 (fun _=>Eh) held fuel t vs=I (d,ps) →
  ∃cs,aK (.bL (Kw w)) cs vs∧qaw P n t cs∧cs.length=P.cellsOf t
 |0,_,_,_,_,_,hp,_=>by simp[qP]at hp
 |n+1,0,_,_,_,_,_,h=>by simp[DataW.trod]at h
 |n+1,fuel+1,t,vs,d,ps,hp,h=>by
  simp only[qP]at hp
  simp only[qaw]
  simp only[DataW.trod]at h
  cases hu:P.underlying t with
  |none=>simp[hu]at hp
  |some td=>
   rw[hu]at h hp
   cases td with
   |bool=>
    simp only[beq_iff_eq]at hp
    split at h<;>first|cases ‹I _=I _› | skip
    all_goals first|(rename_i heq;cases heq;done)|skip
    ·exact⟨_,.cons _ _ _ _ (.bool _) .nil,⟨_,rfl⟩,by simp[hp]⟩
    ·cases h
   |int k=>
    simp only[beq_iff_eq]at hp
    split at h<;>first|cases ‹I _=I _› | skip
    all_goals first|(rename_i heq;cases heq;done)|skip
    ·split at h
     ·rename_i hk
      obtain⟨rfl,cV⟩:=hk
      exact⟨_,.cons _ _ _ _ (.int _ _) .nil,⟨_,rfl,cV⟩,by simp[hp]⟩
     ·cases h
    ·cases h
   |string=>
    simp only[beq_iff_eq]at hp
    split at h<;>first|cases ‹I _=I _› | skip
    all_goals first|(rename_i heq;cases heq;done)|skip
    ·rename_i s
     split at h
     ·rename_i hk
      refine⟨[.str s.data.toList],.cons _ _ _ _ (qp.str s.data.toList) .nil,⟨_,rfl,?_⟩,by simp[hp]⟩
      simpa using hk
     ·cases h
    ·cases h
   |slice e=>
    simp only[Eo,beq_iff_eq,decide_eq_true_eq]at hp
    obtain⟨⟨jH,M1⟩,hp3⟩:=hp
    split at h<;>first|cases ‹I _=I _› | skip
    all_goals first|(rename_i heq;cases heq;done)|skip
    ·exact⟨_,.cons _ _ _ _ (.iQ 0) .nil,.inl rfl,by simp[jH]⟩
    ·rename_i a len cap
     split at h
     ·rename_i hk
      obtain⟨_,cV,hk3⟩:=hk
      cases he:(Ga len).mapM (fun i=>(w.cells? 0 (a.add (i*P.cellsOf e)) (P.cellsOf e)).bind (DataW.trod enc P w 0 (fun _=>Eh) held fuel e))with
      |none=>simp[he]at h
      |some elems=>
       simp only[he,Hv,if_true]at h
       cases hr:(Ga (cap-len)).mapM (fun j=>(w.cells? 0 (a.add ((len+j)*P.cellsOf e)) (P.cellsOf e)).bind (DataW.trod enc P w 0 (fun _=>Eh) held fuel e))with
       |none=>simp[hr]at h
       |some rest=>
        obtain⟨he1,MG⟩:=DM he
        obtain⟨vJ,qG⟩:=DM hr
        rw[Ha]at he1 vJ
        have Gx:0<cap→a.spot=E6:=fun hc=>by
         have pf:∃z,(w.cells? 0 (a.add (0*P.cellsOf e)) (P.cellsOf e)).bind (DataW.trod enc P w 0 (fun _=>Eh) held fuel e)=I z:=by
          by_cases hl:0<len
          ·obtain⟨y,_,hy⟩:=MG 0 0 (by rw[En hl]);exact⟨y,hy⟩
          ·obtain⟨y,_,hy⟩:=qG 0 0 (by rw[En (by omega)])
           have Fe:len=0:=by omega
           subst Fe
           exact⟨y,by simpa using hy⟩
         obtain⟨z0,pf⟩:=pf
         cases M2:w.cells? 0 (a.add (0*P.cellsOf e)) (P.cellsOf e)with
         |none=>rw[M2]at pf;cases pf
         |some us0=>
          obtain⟨d1,d2⟩:=q23 M2
          have di:=d2 0 _ (List.getElem?_eq_getElem (show 0<us0.length by omega))
          have:=World.cell?_spot di
          simpa[Addr.add]using this
        by_cases hcap:0<cap
        ·have MP:=Gx hcap
         obtain⟨r,o,sp⟩:=a
         simp only at MP
         subst MP
         have elem:∀(i:Nat),i<len→∃y:qa,bZ (.bL (Kw w)) r y.flat (o+i*P.cellsOf e)∧y.flat.length=P.cellsOf e∧qaw P n e y.flat∧y.isAgg=qhd P e:=by
          intro i hi
          obtain⟨z,_,hz⟩:=MG i i (by rw[En hi])
          cases hc:w.cells? 0 ((⟨r,o,E6⟩:Addr).add (i*P.cellsOf e)) (P.cellsOf e)with
          |none=>simp[hc]at hz
          |some us=>
           simp only[hc,Hv]at hz
           obtain⟨c1,c2⟩:=q23 hc
           obtain⟨cs,k1,k2,k3⟩:=read n fuel e us z.1 z.2 M1 hz
           have cI:=zM k1 (T0 k2)
           have hcs:bZ (.bL (Kw w)) r cs (o+i*P.cellsOf e):=bZ.hJ k1 fun j v hj=>by
            have h1:=c2 j v hj
            rw[add_lit,add_lit]at h1
            exact j2m h1 (cI v (Gh hj))
           cases cL:qhd P e with
           |true=>exact⟨.agg cs,hcs,k3,k2,rfl⟩
           |false=>
            obtain⟨x,rfl,hx⟩:=qw4 k2 cL
            have hf:x.flat=[x]:=qcl hx
            exact⟨x,by rw[hf];exact hcs,by rw[hf];exact k3,by rw[hf];exact k2,hx⟩
         have rows:∀(m:Nat) (q:Nat),q+m=len→∃ys:List qa,ys.length=m∧aX (.bL (Kw w)) r (P.cellsOf e) ys (o+q*P.cellsOf e)∧∀y∈ys,qaw P n e y.flat∧y.isAgg=qhd P e:=by
          intro m
          induction m with
          |zero=>intro q _;exact⟨[],rfl,.fi _ _ _,by simp⟩
          |succ m ih=>
           intro q hq
           obtain⟨ys,y1,y2,y3⟩:=ih (q+1) (by omega)
           obtain⟨y,z1,z2,z3⟩:=elem q (by omega)
           refine⟨y::ys,by simp[y1],.cY _ _ _ _ _ z2 z1 ?_,?_⟩
           ·rw[show o+q*P.cellsOf e+P.cellsOf e=o+(q+1)*P.cellsOf e from by rw[Gn];omega];exact y2
           ·intro x hx
            rcases List.mem_cons.1 hx with rfl|hx
            ·exact z3
            ·exact y3 x hx
         obtain⟨ys,y1,y2,y3⟩:=rows len 0 (by omega)
         rw[Nat.zero_mul,Nat.add_zero]at y2
         subst y1
         exact⟨_,.cons _ _ _ _ (.list (P.cellsOf e) ys r o cap cV y2) .nil,.inr ⟨ys,rfl,by omega,y3⟩,by simp[jH]⟩
        ·have M2:cap=0:=by omega
         have Fe:len=0:=by omega
         subst M2;subst Fe
         by_cases lS:a.spot=E6
         ·obtain⟨r,o,sp⟩:=a
          simp only at lS
          subst lS
          exact⟨_,.cons _ _ _ _ (.list (P.cellsOf e) [] r o 0 (by simp) (.fi _ _ _)) .nil,.inr ⟨[],rfl,by simp,by simp⟩,by simp[jH]⟩
         ·exact⟨_,.cons _ _ _ _ (.iR (P.cellsOf e) a lS) .nil,.inr ⟨[],rfl,by simp,by simp⟩,by simp[jH]⟩
     ·cases h
    ·cases h
   |struct fs=>
    simp only[Eo,beq_iff_eq,List.all_eq_true]at hp
    obtain⟨⟨jH,M1⟩,hp3⟩:=hp
    change (if vs.length=P.cellsOf t then(fs.toList.mapM fun f=>DataW.trod enc P w 0 (fun _=>Eh) held fuel f.type ((vs.drop f.offset).take (P.cellsOf f.type))).map fun xs=>(DataW.agg (xs.map (·.1)),xs.flatMap (·.2))else E6)=I (d,ps)at h
    ·split at h
     ·rename_i hl
      cases hm:fs.toList.mapM (fun f=>DataW.trod enc P w 0 (fun _=>Eh) held fuel f.type ((vs.drop f.offset).take (P.cellsOf f.type)))with
      |none=>simp[hm]at h
      |some zs=>
       obtain⟨m1,m2⟩:=DM hm
       have Ax:=qzt fs.toList 0 vs jH (by omega)
       obtain⟨cs,k1,k2⟩:=qxm (w:=w) (ty:=qaw P n) fs.toList (fs.toList.map fun f=>(vs.drop f.offset).take (P.cellsOf f.type)) (by simp) (fun i f us hf hv=>by
        obtain⟨z,_,hz⟩:=m2 i f hf
        have fT:us=(vs.drop f.offset).take (P.cellsOf f.type):=by
         rw[Hb,hf]at hv
         simpa using hv.symm
        subst fT
        obtain⟨cs,q1,q2,_⟩:=read n fuel f.type _ z.1 z.2 (hp3 f (Gh hf)) hz
        exact⟨cs,q1,q2⟩)
       rw[←Ax]at k1
       exact⟨cs,by simpa using k1,k2,by have:=k1.length;simp at this;omega⟩
     ·cases h
   |array k e=>
    simp only[Eo,beq_iff_eq]at hp
    obtain⟨jH,M1⟩:=hp
    change (if vs.length=P.cellsOf t then((Ga k).mapM fun i=>DataW.trod enc P w 0 (fun _=>Eh) held fuel e ((vs.drop (i*P.cellsOf e)).take (P.cellsOf e))).map fun xs=>(DataW.agg (xs.map (·.1)),xs.flatMap (·.2))else E6)=I (d,ps)at h
    ·split at h
     ·rename_i hl
      cases hm:(Ga k).mapM (fun i=>DataW.trod enc P w 0 (fun _=>Eh) held fuel e ((vs.drop (i*P.cellsOf e)).take (P.cellsOf e)))with
      |none=>simp[hm]at h
      |some zs=>
       obtain⟨m1,m2⟩:=DM hm
       have Ax:=q52 (P.cellsOf e) k vs (by omega)
       obtain⟨cs,k1,k2⟩:=qtx (w:=w) (ty:=qaw P n e) k ((Ga k).map fun i=>(vs.drop (i*P.cellsOf e)).take (P.cellsOf e)) (by simp) (fun i us hv=>by
        have hi:i<k:=by
         have:=(Gk.1 hv).1
         simpa using this
        obtain⟨z,_,hz⟩:=m2 i i (by rw[En hi])
        have fT:us=(vs.drop (i*P.cellsOf e)).take (P.cellsOf e):=by
         rw[Hb,En hi]at hv
         simpa using hv.symm
        subst fT
        obtain⟨cs,q1,q2,_⟩:=read n fuel e _ z.1 z.2 M1 hz
        exact⟨cs,q1,q2⟩)
       rw[←Ax]at k1
       exact⟨cs,k1,k2,by have:=k1.length;omega⟩
     ·cases h
   |_=>simp at hp
end
open Go.ChangeShapes Go.WideShapes Go.ChangeAt Go.RowKit
section
variable {P:Program}{H:Type}{enc:TypeId×Value→H}{w:World}
def jad (P:Program)(n:Nat)(t:TypeId)(x:qa):Prop:=qaw P n t x.flat∧x.isAgg=qhd P t
def qpk (P:Program)(n:Nat):List TypeId→List qa→Prop
 | [],xs=>xs=[]
 |t::ts,xs=>∃y ys,xs=y::ys∧jad P n t y∧qpk P n ts ys
theorem jmw {n:Nat}{t:TypeId}{v:Value}{d:DataW H}{ps:List MemPlace}{base:Nat}(hp:qP P n t=Eh)(hv:Value.okWide P w .any base t v)(h:DataW.Trod enc P w 0 (fun _=>Eh) Eh t v d ps):∃x,bC (.bL (Kw w)) x v∧jad P n t x:=by
 obtain⟨fuel,hf⟩:=h
 obtain⟨cs,k1,k2,k3⟩:=read n fuel t _ d ps hp hf
 cases cL:qhd P t with
 |true=>
  have FR:∃cells,v=.agg cells:=by
   unfold qhd at cL
   unfold Value.okWide at hv
   split at cL
   ·rename_i fs hu;rw[hu]at hv;obtain⟨c,hc,_⟩:=hv;exact⟨c,hc⟩
   ·rename_i a b hu;rw[hu]at hv;obtain⟨c,hc,_⟩:=hv;exact⟨c,hc⟩
   ·cases cL
  obtain⟨cells,rfl⟩:=FR
  exact⟨.agg cs,.agg cs cells.toList k1,k2,cL.symm⟩
 |false=>
  obtain⟨x,rfl,hx⟩:=qw4 k2 cL
  have FR:v.cells.toList=[v]:=by
   cases v with
   |agg c=>
    exfalso
    unfold Value.okWide at hv
    unfold qhd at cL
    cases n with
    |zero=>simp[qP]at hp
    |succ n=>
     simp only[qP]at hp
     cases hu:P.underlying t with
     |none=>rw[hu]at hp;cases hp
     |some td=>rw[hu]at hp hv cL;cases td<;>first|(simp at hp;done)|(simp at cL;done)|(simp[Cell.okWide,hu,Cell.ok]at hv;done)
   |_=>rfl
  rw[FR]at k1
  cases k1 with
  |cons _ _ _ _ h1 _=>exact⟨x,h1,by rw[qcl hx];exact k2,by rw[hx,cL]⟩
theorem q6k {n:Nat}:∀ {ts:List TypeId} {vs:List Value} {ds:List (DataW H)} {ps:List MemPlace},ts.all (qP P n)=Eh→(∀(j:Nat) t v,ts[j]?=I t→vs[j]?=I v→∃base,Value.okWide P w .any base t v)→DataW.TrodAll enc P w 0 (fun _=>Eh) Eh ts vs ds ps →
  ds.length=ts.length∧∃xs,aK (.bL (Kw w)) xs vs∧qpk P n ts xs
 | [],[],[],ps,_,_,_=>⟨rfl,[],.nil,rfl⟩
 | [],[],_::_,ps,_,_,h=>by simp[DataW.TrodAll]at h
 | [],_::_,_,ps,_,_,h=>by simp[DataW.TrodAll]at h
 |_::_,[],_,ps,_,_,h=>by simp[DataW.TrodAll]at h
 |_::_,_::_,[],ps,_,_,h=>by simp[DataW.TrodAll]at h
 |t::ts,v::vs,d::ds,ps,hp,hv,h=>by
  obtain⟨p,q,h1,h2,_⟩:=h
  simp only[I7,Eo]at hp
  obtain⟨base,hb⟩:=hv 0 t v rfl rfl
  obtain⟨x,k1,k2⟩:=jmw hp.1 hb h1
  obtain⟨hl,xs,k3,k4⟩:=q6k hp.2 (fun j t' v' ht Ak=>hv (j+1) t' v' (by simpa using ht) (by simpa using Ak)) h2
  exact⟨by simp[hl],x::xs,.cons _ _ _ _ k1 k3,x,xs,rfl,k2,k4⟩
theorem Ext.frame {w':World}(h:Ext w w')(may:MemPlace→Prop):w.keptBut w' may:=by
 refine⟨h.os,h.output,fun i hi=>?_⟩
 rw[h.same i hi]
 split<;>simp_all
theorem Ext.sameAt {w':World}(h:Ext w w'){p:MemPlace}(hp:p.block<w.heap.size):w.sameAt w' p:=by
 cases p with
 |cell b o=>exact World.cell?_of_block (w:=w) (h.same b hp)
 |map b=>exact h.same b hp
theorem q1h {w':World}(hx:Ext w w')(hl:laidOutB P=Eh):∀ {ts:List TypeId} {vs:List Value} {ds:List (DataW H)} {ps:List MemPlace},ts.all (fun t=>P.readableRec t&&decide (t<P.types.size))=Eh→DataW.TrodAll enc P w 0 (fun _=>Eh) Eh ts vs ds ps →
  DataW.TrodAll enc P w' 0 (fun b=>decide (b<w.heap.size)) Eh ts vs ds ps
 | [],[],[],ps,_,h=>h
 | [],[],_::_,ps,_,h=>by simp[DataW.TrodAll]at h
 | [],_::_,_,ps,_,h=>by simp[DataW.TrodAll]at h
 |_::_,[],_,ps,_,h=>by simp[DataW.TrodAll]at h
 |_::_,_::_,[],ps,_,h=>by simp[DataW.TrodAll]at h
 |t::ts,v::vs,d::ds,ps,hr,h=>by
  obtain⟨p,q,h1,h2,h3⟩:=h
  simp only[I7,Eo,decide_eq_true_eq]at hr
  have aY:∀x∈p,x.block<w.heap.size:=by obtain⟨m,hm⟩:=h1;exact DataW.trod_lt m _ _ _ hm
  exact⟨p,q,WideElems.Trod_stays hl hr.1.1 hr.1.2 h1 (fun x hm=>hx.sameAt (aY x hm)) (fun x hm=>by simpa using aY x hm),q1h hx hl hr.2 h2,h3⟩
end
def oh (f g:XC):Prop:=∀c st r,f c st=I r→g c st=I r
section
variable {p:qr}{f g:XC}
theorem qz9 (h:oh f g){af:qd}{args:List qa}{hp:j8}{r:qa×Bool×j8}(hr:oP f af args hp=I r):oP g af args hp=I r:=by
 unfold oP at *
 cases hb:Ht args.length af.ntmps with
 |false=>simp[hb]at hr
 |true=>
  simp only[hb,cT]at hr ⊢
  split at hr
  ·rename_i st bO;rw[h _ _ _ bO];exact hr
  ·rename_i st bO;rw[h _ _ _ bO];exact hr
  ·cases hr
theorem T1 (h:oh f g){k:Nat}{args:List qa}{hp:j8}{r:qa×Bool×j8}(hr:zg p f k args hp=I r):zg p g k args hp=I r:=by
 unfold zg at *
 split at hr
 ·exact qz9 h hr
 ·exact hr
theorem T2 (h:oh f g){k:Nat}{args:List qa}{r:qa×Bool}(hr:jz p f k args=I r):jz p g k args=I r:=by
 unfold jz at *
 split at hr
 ·exact hr
 ·split at hr
  ·rename_i v o hh hc;rw[T1 h hc];exact hr
  ·cases hr
theorem q1b (h:oh f g){b:Nat}{args:List qa}{hp:j8}{r:qa×j8}(hr:jS f b args hp=I r):jS g b args hp=I r:=by
 unfold jS at *
 split at hr
 ·split at hr
  ·split at hr
   ·rename_i st bO
    rw[h _ _ _ bO]
    simp only[]
    split at hr
    ·rename_i l1 gO
     cases jH:l1.pending.isNone with
     |false=>simp[jH]at hr
     |true=>
      simp only[jH,cT]at hr ⊢
      split at hr
      ·rename_i x bK gT
       rw[h _ _ _ gT]
       exact hr
      ·cases hr
    ·cases hr
   ·cases hr
  ·cases hr
 ·cases hr
theorem qz8 (h:oh f g){h0:Nat}{e:Env}{hp:j8}{md:jc}{x:qf}{l:List qf}{r:qq}(hr:iH p f h0 e hp md x l=I r):iH p g h0 e hp md x l=I r:=by
 unfold iH at *
 split at hr
 ·cases md with
  |bL=>
   simp only[]at hr ⊢
   rename_i k first captured vs _ _
   cases hb:zw 0 (first++vs++captured)with
   |false=>rw[hb]at hr;cases hr
   |true=>
    rw[hb]at hr
    simp only[cT]at hr ⊢
    split at hr
    ·rename_i v o hc;rw[T2 h hc];exact hr
    ·cases hr
  |red=>
   simp only[]at hr ⊢
   split at hr
   ·rename_i us hf
    cases hb:zw 0 us with
    |false=>rw[hb]at hr;cases hr
    |true=>
     rw[hb]at hr
     simp only[cT]at hr ⊢
     split at hr
     ·rename_i v o hc;rw[T2 h hc];exact hr
     ·cases hr
   ·cases hr
  |fe _=>
   simp only[]at hr ⊢
   rename_i k first captured vs _ _ _
   cases he:(first++vs++captured).isEmpty with
   |true=>rw[he]at hr;exact hr
   |false=>
    rw[he]at hr
    simp only[cond_false]at hr ⊢
    cases hb:zw 0 (first++vs++captured)with
    |false=>rw[hb]at hr;cases hr
    |true=>
     rw[hb]at hr
     simp only[cT]at hr ⊢
     split at hr
     ·rename_i v o hc;rw[T2 h hc];exact hr
     ·cases hr
  |shr=>
   simp only[]at hr ⊢
   split at hr
   ·rename_i v o hh hc;rw[T1 h hc];exact hr
   ·cases hr
 ·cases md with
  |shr=>
   simp only[]at hr ⊢
   split at hr
   ·rename_i v hh hc;rw[q1b h hc];exact hr
   ·cases hr
  |_=>simp at hr
 ·cases hr
theorem q4r (h:oh f g){h0:Nat}{al:Option (List Nat)}{e:Env}{hp:j8}{op:qw}{r:qq}(hr:za p f h0 al e hp op=I r):za p g h0 al e hp op=I r:=by
 cases op with
 |call md x l=>exact qz8 h hr
 |append rk sz b x y=>cases rk<;>exact hr
 |bV rk sz b z n c=>cases rk<;>exact hr
 |_=>exact hr
theorem qp0 (h:oh f g){h0:Nat}{o:qv}{st bK:qh}(hr:iI p f h0 o st=I bK):iI p g h0 o st=I bK:=by
 unfold iI at *
 split at hr
 ·split at hr
  ·rename_i r hs;rw[q4r h hs];exact hr
  ·cases hr
 ·exact hr
 ·cases hr
theorem T3 (h:oh f g){h0:Nat}:∀ {l:List qv} {st bK:qh},fF p f h0 l st=I bK→fF p g h0 l st=I bK
 | [],_,_,hr=>hr
 |o::l,st,bK,hr=>by
  simp only[fF]at hr ⊢
  split at hr
  ·rename_i s1 h1;rw[qp0 h h1];exact T3 h hr
  ·cases hr
theorem qqn (h:oh f g){na:Nat}{l:List qv}{k:Option (List Nat)}{st:qh}{r:qo×qh}(hr:mr p f na l k st=I r):mr p g na l k st=I r:=by
 unfold mr at *
 split at hr
 ·rename_i s1 h1;rw[T3 h h1];exact hr
 ·cases hr
theorem qt1 (h:oh f g){x:qf}{ps:List Nat}{a b:qg}{st:qh}{r:qo×qh}(hr:mA p f x ps a b st=I r):mA p g x ps a b st=I r:=by
 unfold mA at *
 cases hn:(kw a&&kw b)with
 |false=>simp[hn]at hr
 |true=>
  simp only[hn,cT]at hr ⊢
  split at hr
  ·split at hr
   ·rename_i v o hh hc;rw[T1 h hc];exact hr
   ·cases hr
  ·cases hr
end
theorem qv3 (p:qr):∀n,oh (yf p n) (yf p (n+1))
 |0=>fun c st r h=>by simp[yf]at h
 |n+1=>by
  have ih:=qv3 p n
  intro c st r h
  cases c with
  |region na l k=>simp only[yf]at h ⊢;exact qqn ih h
  |rangeFunc f ps a b=>simp only[yf]at h ⊢;exact qt1 ih h
  |seq a b=>
   rw[yf]at h ⊢
   split at h
   ·rename_i gU h1
    rw[ih _ _ _ h1];exact ih _ _ _ h
   ·rename_i br
    rw[ih _ _ _ h]
    split
    ·rename_i gU h1;cases h1;exact absurd h (br _)
    ·rfl
  |cond c a b=>
   rw[yf]at h ⊢
   split at h
   ·rename_i t ht
    cases t
    ·simp only[cond_false]at h ⊢;exact ih _ _ _ h
    ·simp only[cT]at h ⊢;exact ih _ _ _ h
   ·cases h
  |block id b=>
   rw[yf]at h ⊢
   split at h
   ·rename_i fp gU h1
    rw[ih _ _ _ h1];exact h
   ·rename_i br
    rw[ih _ _ _ h]
    split
    ·rename_i fp gU h1;cases h1;exact absurd h (br _ _)
    ·rfl
  |loop b=>
   rw[yf]at h ⊢
   split at h
   ·rename_i gU h1
    rw[ih _ _ _ h1];exact ih _ _ _ h
   ·rename_i br
    rw[ih _ _ _ h]
    split
    ·rename_i gU h1;cases h1;exact absurd h (br _)
    ·rfl
  |_=>exact h
theorem uF (p:qr){n m:Nat}(h:n≤m):oh (yf p n) (yf p m):=by
 induction h with
 |refl=>exact fun _ _ _ h=>h
 |step _ ih=>exact fun c st r hr=>qv3 p _ c st r (ih c st r hr)
open Classical in
noncomputable def X (p:qr):XC:=fun c st=>if h:∃r n,yf p n c st=I r then I (Classical.choose h)else E6
theorem eG {p:qr}{c:qg}{st:qh}{r:qo×qh}:X p c st=I r↔∃n,yf p n c st=I r:=by
 unfold X
 constructor
 ·intro h
  split at h
  ·rename_i hh
   cases h
   exact Classical.choose_spec hh
  ·cases h
 ·rintro ⟨n,hn⟩
  have hh:∃r n,yf p n c st=I r:=⟨r,n,hn⟩
  rw[dif_pos hh]
  obtain⟨m,hm⟩:=Classical.choose_spec hh
  have h1:=uF p (Gb n m) _ _ _ hn
  have h2:=uF p (E7 n m) _ _ _ hm
  rw[h1]at h2
  exact h2.symm
theorem pg {p:qr}(n:Nat):oh (yf p n) (X p):=fun _ _ _ h=>eG.2 ⟨n,h⟩
section
variable {p:qr}
theorem q1m {af:qd}{args:List qa}{hp:j8}{r:qa×Bool×j8}(hr:oP (X p) af args hp=I r):∃n,oP (yf p n) af args hp=I r:=by
 have hr0:=hr
 unfold oP at hr
 cases hb:Ht args.length af.ntmps with
 |false=>simp[hb]at hr
 |true=>
  simp only[hb,cT]at hr
  have key:∀ {r'},X p af.body ⟨nZ 0 args,hp⟩=I r'→∃n,oP (yf p n) af args hp=I r:=by
   intro r' h
   obtain⟨n,hn⟩:=eG.1 h
   refine⟨n,?_⟩
   unfold oP
   rw[hb,hn]
   rw[h]at hr
   exact hr
  split at hr
  ·rename_i st bO;exact key bO
  ·rename_i st bO;exact key bO
  ·cases hr
theorem T4 {k:Nat}{args:List qa}{hp:j8}{r:qa×Bool×j8}(hr:zg p (X p) k args hp=I r):∃n,zg p (yf p n) k args hp=I r:=by
 unfold zg at *
 cases h:p.bH k with
 |none=>rw[h]at hr;exact⟨0,hr⟩
 |some f=>rw[h]at hr;exact q1m hr
theorem M3 {k:Nat}{args:List qa}{r:qa×Bool}(hr:jz p (X p) k args=I r):∃n,jz p (yf p n) k args=I r:=by
 unfold jz at *
 cases h:p.cq k with
 |some f=>rw[h]at hr;exact⟨0,hr⟩
 |none=>
  rw[h]at hr
  simp only[]at hr ⊢
  split at hr
  ·rename_i v o hh hc
   obtain⟨n,hn⟩:=T4 hc
   exact⟨n,by rw[hn];exact hr⟩
  ·cases hr
theorem q49 {b:Nat}{args:List qa}{hp:j8}{r:qa×j8}(hr:jS (X p) b args hp=I r):∃n,jS (yf p n) b args hp=I r:=by
 unfold jS at hr
 split at hr
 ·rename_i l hl
  split at hr
  ·rename_i e vP hse
   split at hr
   ·rename_i st bO
    split at hr
    ·rename_i l1 gO
     cases jH:l1.pending.isNone with
     |false=>simp[jH]at hr
     |true=>
      simp only[jH,cT]at hr
      split at hr
      ·rename_i x bK gT
       obtain⟨n,hn⟩:=eG.1 bO
       obtain⟨m,hm⟩:=eG.1 gT
       refine⟨max n m,?_⟩
       have h1:=uF p (Gb n m) _ _ _ hn
       have h2:=uF p (E7 n m) _ _ _ hm
       simp only[jS,hl,vP,hse,h1,gO,jH,cT,h2]
       exact hr
      ·cases hr
    ·cases hr
   ·cases hr
  ·cases hr
 ·cases hr
theorem q1k {h0:Nat}{e:Env}{hp:j8}{md:jc}{x:qf}{l:List qf}{r:qq}(hr:iH p (X p) h0 e hp md x l=I r):∃n,iH p (yf p n) h0 e hp md x l=I r:=by
 unfold iH at hr
 split at hr
 ·rename_i k first captured vs e1 e2
  cases md with
  |bL=>
   simp only[]at hr
   cases hb:zw 0 (first++vs++captured)with
   |false=>rw[hb]at hr;cases hr
   |true=>
    rw[hb]at hr
    simp only[cT]at hr
    split at hr
    ·rename_i v o hc
     obtain⟨n,hn⟩:=M3 hc
     refine⟨n,?_⟩
     simp only[iH,e1,e2,hn]
     rw[hb]
     exact hr
    ·cases hr
  |red=>
   simp only[]at hr
   split at hr
   ·rename_i us hf
    cases hb:zw 0 us with
    |false=>rw[hb]at hr;cases hr
    |true=>
     rw[hb]at hr
     simp only[cT]at hr
     split at hr
     ·rename_i v o hc
      obtain⟨n,hn⟩:=M3 hc
      refine⟨n,?_⟩
      simp only[iH,e1,e2,hf,hn]
      rw[hb]
      exact hr
     ·cases hr
   ·cases hr
  |fe _=>
   simp only[]at hr
   cases he:(first++vs++captured).isEmpty with
   |true=>exact⟨0,by simp only[iH,e1,e2,he];rw[he]at hr;exact hr⟩
   |false=>
    rw[he]at hr
    simp only[cond_false]at hr
    cases hb:zw 0 (first++vs++captured)with
    |false=>rw[hb]at hr;cases hr
    |true=>
     rw[hb]at hr
     simp only[cT]at hr
     split at hr
     ·rename_i v o hc
      obtain⟨n,hn⟩:=M3 hc
      refine⟨n,?_⟩
      simp only[iH,e1,e2,hn]
      rw[he,hb]
      exact hr
     ·cases hr
  |shr=>
   simp only[]at hr
   split at hr
   ·rename_i v o hh hc
    obtain⟨n,hn⟩:=T4 hc
    refine⟨n,?_⟩
    simp only[iH,e1,e2,hn]
    exact hr
   ·cases hr
 ·rename_i b vs e1 e2
  cases md with
  |shr=>
   simp only[]at hr
   split at hr
   ·rename_i v hh hc
    obtain⟨n,hn⟩:=q49 hc
    refine⟨n,?_⟩
    simp only[iH,e1,e2,hn]
    exact hr
   ·cases hr
  |_=>simp at hr
 ·cases hr
theorem q9t {h0:Nat}{al:Option (List Nat)}{e:Env}{hp:j8}{op:qw}{r:qq}(hr:za p (X p) h0 al e hp op=I r):∃n,za p (yf p n) h0 al e hp op=I r:=by
 cases op with
 |call md x l=>exact q1k hr
 |append rk sz b x y=>cases rk<;>exact⟨0,hr⟩
 |bV rk sz b z n c=>cases rk<;>exact⟨0,hr⟩
 |_=>exact⟨0,hr⟩
theorem q27 {h0:Nat}{o:qv}{st bK:qh}(hr:iI p (X p) h0 o st=I bK):∃n,iI p (yf p n) h0 o st=I bK:=by
 unfold iI at *
 cases hg:mg st.env o.guard with
 |none=>simp[hg]at hr
 |some b=>
  rw[hg]at hr
  cases b with
  |false=>exact⟨0,hr⟩
  |true=>
   simp only[]at hr ⊢
   split at hr
   ·rename_i r hs
    obtain⟨n,hn⟩:=q9t hs
    exact⟨n,by rw[hn];exact hr⟩
   ·cases hr
theorem q2j {h0:Nat}:∀ {l:List qv} {st bK:qh},fF p (X p) h0 l st=I bK→∃n,fF p (yf p n) h0 l st=I bK
 | [],_,_,hr=>⟨0,hr⟩
 |o::l,st,bK,hr=>by
  simp only[fF]at hr
  split at hr
  ·rename_i s1 h1
   obtain⟨n,hn⟩:=q27 h1
   obtain⟨m,hm⟩:=q2j hr
   refine⟨max n m,?_⟩
   simp only[fF]
   rw[qp0 (uF p (Gb n m)) hn]
   exact T3 (uF p (E7 n m)) hm
  ·cases hr
theorem q5a {na:Nat}{l:List qv}{k:Option (List Nat)}{st:qh}{r:qo×qh}(hr:mr p (X p) na l k st=I r):∃n,mr p (yf p n) na l k st=I r:=by
 unfold mr at hr
 split at hr
 ·rename_i s1 h1
  obtain⟨n,hn⟩:=q2j h1
  exact⟨n,by unfold mr;rw[hn];exact hr⟩
 ·cases hr
theorem q8s {x:qf}{ps:List Nat}{a b:qg}{st:qh}{r:qo×qh}(hr:mA p (X p) x ps a b st=I r):∃n,mA p (yf p n) x ps a b st=I r:=by
 unfold mA at hr
 cases hn:(kw a&&kw b)with
 |false=>simp[hn]at hr
 |true=>
  simp only[hn,cT]at hr
  split at hr
  ·rename_i k first captured gC
   split at hr
   ·rename_i v o hh hc
    obtain⟨n,iK⟩:=T4 hc
    refine⟨n,?_⟩
    unfold mA
    rw[hn,gC]
    simp only[cT]
    rw[iK]
    exact hr
   ·cases hr
  ·cases hr
theorem Ay {α:Type}{x y:Option α}(h1:∀r,x=I r→y=I r)(h2:∀r,y=I r→x=I r):x=y:=by
 cases x with
 |none=>
  cases y with
  |none=>rfl
  |some r=>exact(h2 r rfl)
 |some r=>exact(h1 r rfl).symm
theorem jtq {st:qh}:X p .skip st=I (.normal,st):=eG.2 ⟨1,rfl⟩
theorem jqg {id:Nat}{st:qh}:X p (.exit id) st=I (.exit id,st):=eG.2 ⟨1,rfl⟩
theorem j0c {st:qh}:X p .ret st=I (.ret,st):=eG.2 ⟨1,rfl⟩
theorem jin {na:Nat}{l:List qv}{k:Option (List Nat)}{st:qh}:X p (.region na l k) st=mr p (X p) na l k st:=by
 refine Ay (fun r h=>?_) (fun r h=>?_)
 ·obtain⟨n,hn⟩:=eG.1 h
  cases n with
  |zero=>simp[yf]at hn
  |succ n=>simp only[yf]at hn;exact qqn (pg n) hn
 ·obtain⟨n,hn⟩:=q5a h
  exact eG.2 ⟨n+1,by simp only[yf];exact hn⟩
theorem T5 {x:qf}{ps:List Nat}{a b:qg}{st:qh}:X p (.rangeFunc x ps a b) st=mA p (X p) x ps a b st:=by
 refine Ay (fun r h=>?_) (fun r h=>?_)
 ·obtain⟨n,hn⟩:=eG.1 h
  cases n with
  |zero=>simp[yf]at hn
  |succ n=>simp only[yf]at hn;exact qt1 (pg n) hn
 ·obtain⟨n,hn⟩:=q8s h
  exact eG.2 ⟨n+1,by simp only[yf];exact hn⟩
theorem j5s {a b:qg}{st:qh}:X p (.seq a b) st=match X p a st with
  |some (.normal,bK)=>X p b bK
  |r=>r:=by
 refine Ay (fun r h=>?_) (fun r h=>?_)
 ·obtain⟨n,hn⟩:=eG.1 h
  cases n with
  |zero=>simp[yf]at hn
  |succ n=>
   rw[yf]at hn
   split at hn
   ·rename_i gU h1;rw[pg n _ _ _ h1];exact pg n _ _ _ hn
   ·rename_i br
    rw[pg n _ _ _ hn]
    split
    ·rename_i gU h1;cases h1;exact absurd hn (br _)
    ·rfl
 ·split at h
  ·rename_i gU h1
   obtain⟨n,hn⟩:=eG.1 h1
   obtain⟨m,hm⟩:=eG.1 h
   refine eG.2 ⟨max n m+1,?_⟩
   rw[yf,uF p (Gb n m) _ _ _ hn]
   exact uF p (E7 n m) _ _ _ hm
  ·rename_i br
   obtain⟨n,hn⟩:=eG.1 h
   refine eG.2 ⟨n+1,?_⟩
   rw[yf,hn]
   split
   ·rename_i gU h1;cases h1;exact absurd h (br _)
   ·rfl
theorem jnm {c:qf}{a b:qg}{st:qh}:X p (.cond c a b) st=match zd st.env c with
  |some (.bool t)=>bif t then X p a st else X p b st
  |_=>E6:=by
 refine Ay (fun r h=>?_) (fun r h=>?_)
 ·obtain⟨n,hn⟩:=eG.1 h
  cases n with
  |zero=>simp[yf]at hn
  |succ n=>
   rw[yf]at hn
   split at hn
   ·rename_i t ht
    rw[ht]
    cases t
    ·simp only[cond_false]at hn ⊢;exact pg n _ _ _ hn
    ·simp only[cT]at hn ⊢;exact pg n _ _ _ hn
   ·cases hn
 ·split at h
  ·rename_i t ht
   cases t
   ·simp only[cond_false]at h
    obtain⟨n,hn⟩:=eG.1 h
    exact eG.2 ⟨n+1,by rw[yf,ht];exact hn⟩
   ·simp only[cT]at h
    obtain⟨n,hn⟩:=eG.1 h
    exact eG.2 ⟨n+1,by rw[yf,ht];exact hn⟩
  ·cases h
theorem jkx {id:Nat}{b:qg}{st:qh}:X p (.block id b) st=match X p b st with
  |some (.exit fp,bK)=>bif Gi fp id then I (.normal,bK)else I (.exit fp,bK)
  |r=>r:=by
 refine Ay (fun r h=>?_) (fun r h=>?_)
 ·obtain⟨n,hn⟩:=eG.1 h
  cases n with
  |zero=>simp[yf]at hn
  |succ n=>
   rw[yf]at hn
   split at hn
   ·rename_i fp gU h1;rw[pg n _ _ _ h1];exact hn
   ·rename_i br
    rw[pg n _ _ _ hn]
    split
    ·rename_i fp gU h1;cases h1;exact absurd hn (br _ _)
    ·rfl
 ·split at h
  ·rename_i fp gU h1
   obtain⟨n,hn⟩:=eG.1 h1
   exact eG.2 ⟨n+1,by rw[yf,hn];exact h⟩
  ·rename_i br
   obtain⟨n,hn⟩:=eG.1 h
   refine eG.2 ⟨n+1,?_⟩
   rw[yf,hn]
   split
   ·rename_i fp gU h1;cases h1;exact absurd h (br _ _)
   ·rfl
theorem jqo {b:qg}{st:qh}:X p (.loop b) st=match X p b st with
  |some (.normal,bK)=>X p (.loop b) (gc st.heap.length bK)
  |r=>r:=by
 refine Ay (fun r h=>?_) (fun r h=>?_)
 ·obtain⟨n,hn⟩:=eG.1 h
  cases n with
  |zero=>simp[yf]at hn
  |succ n=>
   rw[yf]at hn
   split at hn
   ·rename_i gU h1;rw[pg n _ _ _ h1];exact pg n _ _ _ hn
   ·rename_i br
    rw[pg n _ _ _ hn]
    split
    ·rename_i gU h1;cases h1;exact absurd hn (br _)
    ·rfl
 ·split at h
  ·rename_i gU h1
   obtain⟨n,hn⟩:=eG.1 h1
   obtain⟨m,hm⟩:=eG.1 h
   refine eG.2 ⟨max n m+1,?_⟩
   rw[yf,uF p (Gb n m) _ _ _ hn]
   exact uF p (E7 n m) _ _ _ hm
  ·rename_i br
   obtain⟨n,hn⟩:=eG.1 h
   refine eG.2 ⟨n+1,?_⟩
   rw[yf,hn]
   split
   ·rename_i gU h1;cases h1;exact absurd h (br _)
   ·rfl
theorem jos {sz:Nat}{st:qh}:X p (.grow sz) st=match ye 0 st.env,ye 1 st.env with
   |some (.list Eh _ _,_),I (.int .i64 (.ofNat m),_)=>bif Iu 0 m&&Ht m 1073741824 then I (.normal,{ st with env:=[(0,.list E5 sz [],Eh)] })else E6
   |_,_=>E6:=by
 refine Ay (fun r h=>?_) (fun r h=>?_)
 ·obtain⟨n,hn⟩:=eG.1 h
  cases n with
  |zero=>simp[yf]at hn
  |succ n=>simp only[yf]at hn;exact hn
 ·exact eG.2 ⟨1,by simp only[yf];exact h⟩
theorem q1x {P:Program}(dV:qx P p){k:Nat}{args:List qa}{v:qa}{ow:Bool}(h:jz p (X p) k args=I (v,ow))(hb:zw 0 args=Eh):IsoCall P k args v ow:=by
 obtain⟨n,hn⟩:=M3 h
 exact q56 dV hn hb
end
inductive jm where
 |code (c:qg)
 |seq (a b:jm)
 |cond (c:qf) (a b:jm)
 |block (id:Nat) (b:jm)
 |loop (b:jm)
 |Ad (s:Nat) (c:jm)
 |shut (s sz:Nat) (c:jm)
def jm.erase:jm→qg
 | .code c=>c
 | .seq a b=>.seq a.erase b.erase
 | .cond c a b=>.cond c a.erase b.erase
 | .block id b=>.block id b.erase
 | .loop b=>.loop b.erase
 | .Ad _ c=>c.erase
 | .shut _ _ c=>c.erase
def T6 (P:Program)(w0:World)(K:Nat→Nat→Option Value)(nt:Nat)(st:qh)(a:Act)(w:World):Prop:=
 a.tmps.size=nt∧∃C' ω',Marks C' w0.heap.size a.defers∧av P C' ω' w0 (.bL K) st.heap w∧ai C' ω' w w0.heap.size st.env a.tmps
theorem T6.gc {P:Program}{w0:World}{K:Nat→Nat→Option Value}{nt n:Nat}{st:qh}{a:Act}{w:World}(h:T6 P w0 K nt st a w):T6 P w0 K nt (Abs.gc n st) a w:=by
 obtain⟨h1,C',ω',h2,h3,h4⟩:=h
 unfold Abs.gc
 cases hb:Ht st.heap.length n with
 |true=>exact⟨h1,C',ω',h2,h3,h4⟩
 |false=>
  simp only[cond_false]
  cases ly:(mf n st.env&&ko n (st.heap.take n))with
  |false=>exact⟨h1,C',ω',h2,h3,h4⟩
  |true=>
   simp only[cT]
   simp only[Eo]at ly
   have hn:n≤st.heap.length:=by
    rcases Nat.lt_or_ge n st.heap.length with h|h
    ·omega
    ·rw[Nat.ble_eq_true_of_le h]at hb;cases hb
   exact⟨h1,C'.cut n,ω',⟨h2.choose,h2.choose_spec.1,h2.choose_spec.2.1,h2.choose_spec.2.2⟩,h3.gc hn ly.2 (fun b r h=>by cases h),h4.cut ly.1⟩
section
variable {P:Program}
theorem Tabs.table {w:World}(h:Tabs P w){g:Nat}(hg:P.globalNamed nw=I g):Lib.TabIs P w nw .u64 Lib.pow10Tab:=(h g (.inl hg)).2.1 hg
theorem Tabs.length {w:World}(h:Tabs P w){g:Nat}(hg:P.globalNamed xe=I g):∃m,w.cell? ⟨g,0,E6⟩=I (.int .i64 m):=(h g (.inr (.inl hg))).2.2.1 hg
theorem Gy {k:Nat}{args:List qa}{v:qa}(h:∀(K:Nat→Nat→Option Value) (w:World) (vs:List Value),Tabs P w→(∀r o u,K r o=I u→w.cell? ⟨r,o,E6⟩=I u)→aK (.bL K) args vs →
  ∃u,bC (.bL K) v u∧Calls P k ⟨vs⟩ w fun e w'=>e=.returned u∧Ext w w'):IsoCall P k args v E5:=by
 intro K w vs ht h1 h2 hr
 obtain⟨u,hu,hc⟩:=h K w vs ht h1 hr
 refine callsIn_wide.2 (hc.mono ?_)
 rintro e w' ⟨rfl,hx⟩
 exact⟨u,K,rfl,hx,fun _ _ _ h=>h,fun _ _ _=>rfl,fun r o x hk=>hx.cell (h1 r o x hk),h2,hu,fun h=>by cases h⟩
theorem q59 {C:ax}{r:Nat}:∀ {xs:List qa} {us:List Value} {o:Nat},aK C xs us→(∀x∈xs,x.flat=[x])→(∀(j:Nat) u,us[j]?=I u→C.K r (o+j)=I u)→aX C r 1 xs o
 | [],_,o,_,_,_=>.fi _ _ _
 |x::xs,us,o,h,hf,hk=>by
  cases h with
  |cons _ _ u us hx hr=>
   have Dt:=hf x (Gm ..)
   refine .cY _ _ _ _ _ (by rw[Dt];rfl) ?_ (q59 hr (fun y hy=>hf y (Gl _ hy)) fun j u hj=>?_)
   ·rw[Dt]
    exact .de _ _ _ _ u (by have:=hk 0 u rfl;simpa using this) hx (.gN _ _)
   ·have:=hk (j+1) u (by simpa using hj)
    rw[show o+1+j=o+(j+1) by omega]
    exact this
theorem jgh {k:Nat}{args:List qa}{xs:List qa}{us:List Value}{t:TypeId}(hf:∀x∈xs,x.flat=[x])(fT:∀K,aK (.bL K) xs us)(h1u:∀u∈us,u.oneCell'=Eh)
  (h:∀(K:Nat→Nat→Option Value) (w:World) (vs:List Value),Tabs P w→(∀r o u,K r o=I u→w.cell? ⟨r,o,E6⟩=I u)→aK (.bL K) args vs →
  Calls P k ⟨vs⟩ w fun e w'=>e=.returned (.slice (I ⟨w.heap.size,0,E6⟩) xs.length xs.length)∧w'=w.alloc (.cells us.toArray t)):IsoCall P k args (.list E5 1 xs) E5:=by
 intro K w vs ht h1 h2 hr
 refine callsIn_wide.2 ((h K w vs ht h1 hr).mono ?_)
 rintro e w' ⟨rfl,rfl⟩
 have hx:Ext w (w.alloc (.cells us.toArray t)):=Ext.alloc w _ (fun c t fr h=>by cases h;rfl)
 have F6:∀o u,K w.heap.size o=I u→False:=fun o u hk=>by
  have:=h1 _ _ _ hk
  simp only[World.cell?,Array.getElem?_eq_none (Nat.le_refl _)]at this
  cases this
 refine⟨_,fun r o=>if r=w.heap.size then us[o]? else K r o,rfl,hx,?_,?_,?_,?_,?_,fun h=>by cases h⟩
 ·intro r o x hk
  have br:r≠w.heap.size:=fun e=>F6 o x (e▸hk)
  simp only[if_neg br];exact hk
 ·intro r o aY
  have br:r≠w.heap.size:=by omega
  simp only[if_neg br]
 ·intro r o x hk
  simp only[]at hk
  split at hk
  ·next hr=>
   subst hr
   have hg:(w.alloc (.cells us.toArray t)).heap[w.heap.size]?=I (.cells us.toArray t):=by rw[vD,if_pos rfl]
   simp only[World.cell?]
   rw[hg]
   simpa using hk
  ·exact hx.cell (h1 r o x hk)
 ·intro r o x hk
  simp only[]at hk
  split at hk
  ·exact h1u x (Gh hk)
  ·exact h2 r o x hk
 ·refine .list _ _ _ _ _ (Nat.le_refl _) (q59 (fT _) hf fun j u hj=>?_)
  show(if w.heap.size=w.heap.size then us[0+j]? else K w.heap.size (0+j))=I u
  rw[if_pos rfl,Nat.zero_add];exact hj
theorem IsoCall.shr {k:Nat}{args:List qa}{v:qa}{ow:Bool}(h:IsoCall P k args v ow)(hb:zw 0 args=Eh)(hp:lQ v=Eh)(dV:j8):Ab P k args dV v E5 dV:=by
 intro C ω w vs hr m
 have jE:aK (.bL C.K) args vs:=qp.shift (C:=C) (C':=.bL C.K) 0 (fun _ _ _ h=>h) (fun b r aY=>by omega) hr hb
 refine CallsIn.mono (h C.K w vs m.tabs m.know m.cP jE) ?_
 rintro e w' ⟨u,K',rfl,q1,q2,q3,q4,q5,q6,_⟩
 refine⟨u,{ C with K:=K' },ω,rfl,⟨q2,fun _ _ h=>h,rfl,fun _ h=>h,fun _ h=>h⟩,m.bL q1 q2 q3 q4 q5,?_,fun h=>by cases h⟩
 exact qp.shift (C:=.bL K') (C':={ C with K:=K' }) 0 (fun _ _ _ h=>h) (fun b r aY=>by omega) q6 hp
end
open Go
def DN:List UInt8→List UInt8→Bool
 | [],[]=>Eh
 |a::l,b::m=>bif Gi a.toNat b.toNat then DN l m else E5
 |_,_=>E5
theorem qp2:∀ {l m:List UInt8},DN l m=Eh→l=m
 | [],[],_=>rfl
 | [],_::_,h=>by simp[DN]at h
 |_::_,[],h=>by simp[DN]at h
 |a::l,b::m,h=>by
  simp only[DN,Ev]at h
  split at h
  ·next hb=>rw[UInt8.toNat_inj.1 (El hb),qp2 h]
  ·exact absurd h (by simp)
def M4:Int→Int→Bool
 | .ofNat a,.ofNat b=>Gi a b
 | .negSucc a,.negSucc b=>Gi a b
 |_,_=>E5
theorem q42:∀ {a b:Int},M4 a b=Eh→a=b
 | .ofNat _,.ofNat _,h=>by rw[El h]
 | .negSucc _,.negSucc _,h=>by rw[El h]
 | .ofNat _,.negSucc _,h=>by simp[M4]at h
 | .negSucc _,.ofNat _,h=>by simp[M4]at h
mutual
def iM:qa→qa→Bool
 | .bool a,.bool b=>a == b
 | .int k a,.int k' b=>bif decide (k=k')then M4 a b else E5
 | .str a,.str b=>DN a b
 | .list a n xs,.list b m ys=>bif a == b then bif Gi n m then uG xs ys else E5 else E5
 | .agg xs,.agg ys=>uG xs ys
 | .az xs,.az ys=>uG xs ys
 |_,_=>E5
def uG:List qa→List qa→Bool
 | [],[]=>Eh
 |a::l,b::m=>bif iM a b then uG l m else E5
 |_,_=>E5
end
mutual
theorem qzu:∀ {a b:qa},iM a b=Eh→a=b:=by
 intro a b h
 match a,b with
 | .bool _,.bool _=>simp only[iM,beq_iff_eq]at h;rw[h]
 | .int k a,.int k' b=>
  simp only[iM,Ev,decide_eq_true_eq]at h
  split at h
  ·next hk=>rw[hk,q42 h]
  ·exact absurd h (by simp)
 | .str _,.str _=>simp only[iM]at h;rw[qp2 h]
 | .list a n xs,.list b m ys=>
  simp only[iM,Ev,beq_iff_eq]at h
  split at h
  ·next h1=>
   split at h
   ·next h2=>rw[h1,El h2,DP h]
   ·exact absurd h (by simp)
  ·exact absurd h (by simp)
 | .agg _,.agg _=>simp only[iM]at h;rw[DP h]
 | .az _,.az _=>simp only[iM]at h;rw[DP h]
 | .bool _,.int .. | .bool _,.str _ | .bool _,.list .. | .bool _,.agg _ | .bool _,.az _=>simp[iM]at h
 | .int ..,.bool _ | .int ..,.str _ | .int ..,.list .. | .int ..,.agg _ | .int ..,.az _=>simp[iM]at h
 | .str _,.bool _ | .str _,.int .. | .str _,.list .. | .str _,.agg _ | .str _,.az _=>simp[iM]at h
 | .list ..,.bool _ | .list ..,.int .. | .list ..,.str _ | .list ..,.agg _ | .list ..,.az _=>simp[iM]at h
 | .agg _,.bool _ | .agg _,.int .. | .agg _,.str _ | .agg _,.list .. | .agg _,.az _=>simp[iM]at h
 | .az _,.bool _ | .az _,.int .. | .az _,.str _ | .az _,.list .. | .az _,.agg _=>simp[iM]at h
 | .ms ..,_ | .ptr ..,_ | .ah _,_ | .cE _,_ | .bN,_ | .map _,_ | .bM,_ | .fn ..,_ | .bX,_ | .undef,_ | .any,_ | .au ..,_ | .dk ..,_=>simp[iM]at h
 | .bool _,.ms .. | .bool _,.ptr .. | .bool _,.ah _ | .bool _,.cE _ | .bool _,.bN | .bool _,.map _ | .bool _,.bM | .bool _,.fn .. | .bool _,.bX | .bool _,.undef | .bool _,.au .. | .bool _,.dk ..=>simp[iM]at h
 | .int ..,.ms .. | .int ..,.ptr .. | .int ..,.ah _ | .int ..,.cE _ | .int ..,.bN | .int ..,.map _ | .int ..,.bM | .int ..,.fn .. | .int ..,.bX | .int ..,.undef | .int ..,.au .. | .int ..,.dk ..=>simp[iM]at h
 | .str ..,.ms .. | .str ..,.ptr .. | .str ..,.ah _ | .str ..,.cE _ | .str ..,.bN | .str ..,.map _ | .str ..,.bM | .str ..,.fn .. | .str ..,.bX | .str ..,.undef | .str ..,.au .. | .str ..,.dk ..=>simp[iM]at h
 | .list ..,.ms .. | .list ..,.ptr .. | .list ..,.ah _ | .list ..,.cE _ | .list ..,.bN | .list ..,.map _ | .list ..,.bM | .list ..,.fn .. | .list ..,.bX | .list ..,.undef | .list ..,.au .. | .list ..,.dk ..=>simp[iM]at h
 | .agg ..,.ms .. | .agg ..,.ptr .. | .agg ..,.ah _ | .agg ..,.cE _ | .agg ..,.bN | .agg ..,.map _ | .agg ..,.bM | .agg ..,.fn .. | .agg ..,.bX | .agg ..,.undef | .agg ..,.au .. | .agg ..,.dk ..=>simp[iM]at h
 | .az ..,.ms .. | .az ..,.ptr .. | .az ..,.ah _ | .az ..,.cE _ | .az ..,.bN | .az ..,.map _ | .az ..,.bM | .az ..,.fn .. | .az ..,.bX | .az ..,.undef | .az ..,.au .. | .az ..,.dk ..=>simp[iM]at h
theorem DP:∀ {l m:List qa},uG l m=Eh→l=m:=by
 intro l m h
 match l,m with
 | [],[]=>rfl
 | [],_::_=>simp[uG]at h
 |_::_,[]=>simp[uG]at h
 |a::l,b::m=>
  simp only[uG,Ev]at h
  split at h
  ·next h1=>rw[qzu h1,DP h]
  ·exact absurd h (by simp)
end
abbrev Row:=List qa×qa×Bool
def zj (args:List qa):List Row→Option (qa×Bool)
 | []=>E6
 |r::l=>bif uG r.1 args then I r.2 else zj args l
theorem L2 {args:List qa}{x:qa×Bool}:∀ {l:List Row},zj args l=I x→(args,x)∈l
 | [],h=>by simp[zj]at h
 |r::l,h=>by
  simp only[zj,Ev]at h
  split at h
  ·next hb=>
   simp only[I.injEq]at h
   rw[←DP hb,←h]
   exact Gm ..
  ·exact Gl _ (L2 h)
def q3i (tab:Nat→Option (List Row)):vA:=fun k=>(tab k).map fun l args=>zj args l
def L0 (P:Program)(tab:Nat→Option (List Row)):Prop:=
 ∀k l,tab k=I l→∀r∈l,IsoCall P k r.1 r.2.1 r.2.2
def wU:List (Nat×List Row)→Nat→Option (List Row)
 | [],_=>E6
 |(k,l)::t,n=>bif Gi k n then I l else wU t n
def T7 (P:Program)(k:Nat):List Row→Prop
 | []=>True
 |r::l=>IsoCall P k r.1 r.2.1 r.2.2∧T7 P k l
def jag (P:Program):List (Nat×List Row)→Prop
 | []=>True
 |(k,l)::t=>T7 P k l∧jag P t
theorem q2d {P:Program}{k:Nat}:∀ {l:List Row},T7 P k l→∀r∈l,IsoCall P k r.1 r.2.1 r.2.2
 |r::l,h,x,hx=>by
  cases hx with
  |head=>exact h.1
  |tail _ hx=>exact q2d h.2 x hx
theorem RU {P:Program}:∀ {t:List (Nat×List Row)},jag P t→L0 P (wU t)
 |(j,m)::t,h,k,l,hk=>by
  simp only[wU,Ev]at hk
  split at hk
  ·next hb=>
   rw[El hb]at h
   simp only[I.injEq]at hk
   subst hk
   exact q2d h.1
  ·exact RU h.2 k l hk
theorem j5q {P:Program}{t:jb}{tab:Nat→Option (List Row)}{M:L5}(h:qx P (t.prog (fun _=>E6) M))(ht:L0 P tab)(he:∀k l,tab k=I l→Enters P k):qx P (t.prog (q3i tab) M) where
 fn:=h.fn
 gJ:=by
  intro k f hf
  simp only[jb.prog,q3i,Option.map_eq_some_iff]at hf
  obtain⟨l,hl,rfl⟩:=hf
  refine⟨he k l hl,fun args v o hv _ _=>ht k l hl _ (L2 hv)⟩
 mixed:=h.mixed
 maps:=h.maps
theorem qvz {P:Program}{p:qr}(h:qx P p){n k b:Nat}{ow:Bool}{h1:j8}{es:List (qa×qa)}(hr:zg p (ib p n) k [] []=I (.map b,ow,h1))(hb:h1[b]?=I (.map es))(he:uf 0 es=Eh):Enters P k∧S9 P k es:=
 q7z h (cg.Gj (MT h n).1) (by rw[←MY];exact hr) hb he
theorem zb {P:Program}{p:qr}(h:qx P p){n k:Nat}{args:List qa}{v:qa}{o:Bool}(hr:jz p (ib p n) k args=some (v,o))(hb:zw 0 args=true:=by rfl):IsoCall P k args v o:=
 q56 h (jbg hr) hb
end Go.Abs
