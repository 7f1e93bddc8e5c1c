/- The executor for the kernel's run. -/
import Derived.Test.YtfopaakmgogpiaaGreatDoorAbsG
import Derived.ProofKit
import Derived.OpenShut
import Derived.ShutString
set_option linter.unusedVariables false
set_option linter.unusedSimpArgs false
open Option renaming some→I,none→Ga,bind_some→G2
open Bool renaming true→Eh,and_eq_true→Ep,cond_eq_ite→Eu,false→Ev
open Nat renaming eq_of_beq_eq_true→Ek,le_max_right→Gb,le_max_left→Ge,beq→Gk,succ_mul→Gr,ble→Gy,blt→G6
open List renaming getElem?_range→En,range→Gc,length_eq_zero_iff→Gh,mem_of_getElem?→Gi,getElem?_eq_some_iff→Gl,mem_cons_of_mem→Gm,mem_cons_self→Gn,flatten_cons→Gv,length_range→Gw,getElem?_map→Gx,mem_append→G3,drop_drop→G5,map_cons→G9,all_cons→Ha
namespace Go.Abs
def hE {α:Type}(n:Nat)(f:Nat→α):α:=match n with
 |0=>f 0
 |m+1=>f (Nat.succ m)
def Vu {α:Type}(n:Int)(f:Int→α):α:=match n with
 | .ofNat a=>hE a fun a=>f (.ofNat a)
 | .negSucc a=>hE a fun a=>f (.negSucc a)
def Hy {α:Type}(b:Bool)(f:Bool→α):α:=match b with
 |true=>f Eh
 |false=>f Ev
def q03 {α:Type}(k:IntKind)(f:IntKind→α):α:=match k with
 | .i8=>f .i8 | .i16=>f .i16 | .i32=>f .i32 | .i64=>f .i64 | .u8=>f .u8 | .u16=>f .u16 | .u32=>f .u32 | .u64=>f .u64
def Hz {α:Type}:List UInt8→(List UInt8→α)→α
 | [],f=>f []
 |c::s,f=>Hz s fun s=>f (c::s)
def Vv {α:Type}(g:Fn)(f:Fn→α):α:=match g with
 | .func k=>hE k fun k=>f (.func k)
 | .yield k=>hE k fun k=>f (.yield k)
 |g=>f g
mutual
def gD {α:Type}:qa→(qa→α)→α
 | .bool b,f=>Hy b fun b=>f (.bool b)
 | .int k n,f=>q03 k fun k=>Vu n fun n=>f (.int k n)
 | .str s,f=>Hz s fun s=>f (.str s)
 | .list b sz xs,f=>Hy b fun b=>hE sz fun sz=>wk xs fun xs=>f (.list b sz xs)
 | .ms b o l,f=>hE b fun b=>hE o fun o=>hE l fun l=>f (.ms b o l)
 | .ptr b o,f=>hE b fun b=>hE o fun o=>f (.ptr b o)
 | .ah v,f=>gD v fun v=>f (.ah v)
 | .cE n,f=>hE n fun n=>f (.cE n)
 | .bN,f=>f .bN
 | .map b,f=>hE b fun b=>f (.map b)
 | .bM,f=>f .bM
 | .fn g a c,f=>Vv g fun g=>wk a fun a=>wk c fun c=>f (.fn g a c)
 | .bX,f=>f .bX
 | .agg cs,f=>wk cs fun cs=>f (.agg cs)
 | .ay cs,f=>wk cs fun cs=>f (.ay cs)
 | .undef,f=>f .undef
 | .any,f=>f .any
 | .au b bz len,f=>hE b fun b=>hE bz fun bz=>hE len fun len=>f (.au b bz len)
 | .dl b bz off,f=>hE b fun b=>hE bz fun bz=>hE off fun off=>f (.dl b bz off)
def wk {α:Type}:List qa→(List qa→α)→α
 | [],f=>f []
 |x::xs,f=>gD x fun x=>wk xs fun xs=>f (x::xs)
end
def HA {α:Type}:Env→(Env→α)→α
 | [],f=>f []
 |(t,v,o)::e,f=>hE t fun t=>gD v fun v=>Hy o fun o=>HA e fun e=>f ((t,v,o)::e)
def Oj {α:Type}:List (qa×Bool)→(List (qa×Bool)→α)→α
 | [],f=>f []
 |(v,o)::e,f=>gD v fun v=>Hy o fun o=>Oj e fun e=>f ((v,o)::e)
def Ok {α:Type}:List (qa×qa)→(List (qa×qa)→α)→α
 | [],f=>f []
 |(k,v)::e,f=>gD k fun k=>gD v fun v=>Ok e fun e=>f ((k,v)::e)
def Vw {α:Type}(x:Option qi)(f:Option qi→α):α:=match x with
 |none=>f Ga
 |some .normal=>f (I .normal)
 |some (.exit id)=>hE id fun id=>f (I (.exit id))
 |some .ret=>f (I .ret)
def Vx {α:Type}:qn→(qn→α)→α
 | .hole,f=>f .hole
 | .cells cs,f=>Oj cs fun cs=>f (.cells cs)
 | .map es,f=>Ok es fun es=>f (.map es)
 | .iter s pos,f=>hE pos fun pos=>f (.iter s pos)
 | .fE t e l,f=>Hz l fun l=>f (.fE t e l)
 | .dead,f=>f .dead
 -- (what a vector holds was forced when it was appended)
 | .vec sz bz xs,f=>hE sz fun sz=>hE bz fun bz=>f (.vec sz bz xs)
 | .loop l,f=>HA l.env fun e=>Vw l.pending fun x=>f (.loop ⟨e,l.params,l.assign,l.body,x⟩)
def Ol {α:Type}:za→(za→α)→α
 | [],f=>f []
 |b::h,f=>Vx b fun b=>Ol h fun h=>f (b::h)
def HC {α:Type}(st:qg)(f:qg→α):α:=HA st.env fun e=>Ol st.heap fun h=>f ⟨e,h⟩
section
variable {α:Type}
theorem pB (n:Nat)(f:Nat→α):hE n f=f n:=by cases n<;>rfl
theorem q67 (n:Int)(f:Int→α):Vu n f=f n:=by cases n<;>simp[Vu,pB]
theorem Om (n:Bool)(f:Bool→α):Hy n f=f n:=by cases n<;>rfl
theorem q4n (n:IntKind)(f:IntKind→α):q03 n f=f n:=by cases n<;>rfl
theorem Vy:∀ (s:List UInt8) (f:List UInt8→α),Hz s f=f s
 | [],_=>rfl
 |c::s,f=>by simp only[Hz];rw[Vy s]
theorem q9h (g:Fn)(f:Fn→α):Vv g f=f g:=by cases g<;>simp[Vv,pB]
mutual
theorem HD:∀ (v:qa) (f:qa→α),gD v f=f v
 | .bool b,f=>by simp only[gD,Om]
 | .int k n,f=>by simp only[gD,q4n,q67]
 | .str s,f=>by simp only[gD,Vy]
 | .list b sz xs,f=>by simp only[gD,Om,pB];rw[AY xs]
 | .ms b o l,f=>by simp only[gD,pB]
 | .ptr b o,f=>by simp only[gD,pB]
 | .ah v,f=>by simp only[gD];rw[HD v]
 | .cE n,f=>by simp only[gD,pB]
 | .bN,f=>by simp only[gD]
 | .map b,f=>by simp only[gD,pB]
 | .bM,f=>by simp only[gD]
 | .fn g a c,f=>by simp only[gD,q9h];rw[AY a,AY c]
 | .bX,f=>by simp only[gD]
 | .agg cs,f=>by simp only[gD];rw[AY cs]
 | .ay cs,f=>by simp only[gD];rw[AY cs]
 | .undef,f=>by simp only[gD]
 | .any,f=>by simp only[gD]
 | .au b bz len,f=>by simp only[gD,pB]
 | .dl b bz off,f=>by simp only[gD,pB]
theorem AY:∀ (l:List qa) (f:List qa→α),wk l f=f l
 | [],f=>by simp only[wk]
 |x::xs,f=>by simp only[wk];rw[HD x,AY xs]
end
theorem Vz:∀ (e:Env) (f:Env→α),HA e f=f e
 | [],_=>rfl
 |(t,v,o)::e,f=>by simp only[HA,pB,HD,Om];rw[Vz e]
theorem qra:∀ (e:List (qa×Bool)) (f:List (qa×Bool)→α),Oj e f=f e
 | [],_=>rfl
 |(v,o)::e,f=>by simp only[Oj,HD,Om];rw[qra e]
theorem qmy:∀ (e:List (qa×qa)) (f:List (qa×qa)→α),Ok e f=f e
 | [],_=>rfl
 |(v,o)::e,f=>by simp only[Ok,HD];rw[qmy e]
theorem q56 (x:Option qi)(f:Option qi→α):Vw x f=f x:=by
 cases x with
 |none=>rfl
 |some x=>cases x<;>simp[Vw,pB]
theorem q6j (b:qn)(f:qn→α):Vx b f=f b:=by
 cases b<;>simp[Vx,qra,qmy,pB,Vy,Vz,q56,AY]
theorem qsw:∀ (h:za) (f:za→α),Ol h f=f h
 | [],_=>rfl
 |b::h,f=>by simp only[Ol,q6j];rw[qsw h]
theorem VA (st:qg)(f:qg→α):HC st f=f st:=by simp only[HC,Vz,qsw]
end
def hZ (p:qr):Nat→XC
 |0,_,_=>Ga
 |n+1,c,st=>match c with
  | .skip=>I (.normal,st)
  | .region na ops keep=>match mM p (hZ p n) na ops keep st with
   |some (x,bF)=>HC bF fun s=>I (x,s)
   |none=>Ga
  | .seq a b=>match hZ p n a st with
   |some (.normal,bF)=>hZ p n b bF
   |r=>r
  | .cond c a b=>match zc st.env c with
   |some (.bool t)=>bif t then hZ p n a st else hZ p n b st
   |_=>Ga
  | .block id body=>match hZ p n body st with
   |some (.exit ft,bF)=>bif Gk ft id then I (.normal,bF)else I (.exit ft,bF)
   |r=>r
  | .loop body=>match hZ p n body st with
   |some (.normal,bF)=>HC (gc st.heap.length bF) fun s=>hZ p n (.loop body) s
   |r=>r
  | .rangeFunc f params assign body=>match mN p (hZ p n) f params assign body st with
   |some (x,bF)=>HC bF fun s=>I (x,s)
   |none=>Ga
  | .exit id=>I (.exit id,st)
  | .ret=>I (.ret,st)
  | .grow sz=>match yd 0 st.env,yd 1 st.env with
   |some (.list Eh _ _,_),I (.int .i64 (.ofNat m),_)=>bif G6 0 m&&Gy m 1073741824 then I (.normal,{ st with env:=[(0,.list Ev sz [],Eh)] })else Ga
   |_,_=>Ga
  | .stuck=>Ga
theorem Oo (p:qr):∀n,hZ p n=ye p n
 |0=>by funext c st;rfl
 |n+1=>by
  have ih:=Oo p n
  funext c st
  cases c with
  |region na ops keep=>
   simp only[hZ,ye,ih]
   cases mM p (ye p n) na ops keep st with
   |none=>rfl
   |some r=>simp only[VA]
  |rangeFunc f ps a b=>
   simp only[hZ,ye,ih]
   cases mN p (ye p n) f ps a b st with
   |none=>rfl
   |some r=>simp only[VA]
  |loop body=>
   simp only[hZ,ye,ih,VA]
   rfl
  |_=>simp only[hZ,ye,ih]<;>rfl
inductive ja where
 |leaf (k:Nat) (f:qd)
 |node (m:Nat) (a b:ja)
def ja.find:ja→Nat→Option qd
 | .leaf k f,n=>bif Gk k n then I f else Ga
 | .node m a b,n=>bif G6 n m then a.find n else b.find n
def ja.All (Q:Nat→qd→Prop):ja→Prop
 | .leaf k f=>Q k f
 | .node _ a b=>a.All Q∧b.All Q
theorem ja.fN {Q}:∀ {t:ja} {k:Nat} {f:qd},t.All Q→t.find k=I f→Q k f
 | .leaf j g,k,f,h,hf=>by
  simp only[ja.find]at hf
  cases hb:Gk j k with
  |false=>simp[hb]at hf
  |true=>
   have:=Ek hb
   subst this
   simp only[hb,cT,I.injEq]at hf
   subst hf;exact h
 | .node m a b,k,f,h,hf=>by
  simp only[ja.find]at hf
  cases hb:G6 k m with
  |true=>simp only[hb,cT]at hf;exact ja.fN h.1 hf
  |false=>simp only[hb,cond_false]at hf;exact ja.fN h.2 hf
def ja.prog (t:ja)(cn:Ea)(maps:TF:=fun _=>Ga):qr:={ bB:=t.find,cn:=cn,maps:=maps }
theorem jb2 {p n k args r}(h:jy p (hZ p n) k args=r):jy p (ye p n) k args=r:=by
 rw[←Oo];exact h
def Kw (w:World):Nat→Nat→Option Value:=fun r o=>(w.cell? ⟨r,o,Ga⟩).filter (·.oneCell')
theorem j0x {w r o v}(h:w.cell? ⟨r,o,Ga⟩=I v)(h1:v.oneCell'=Eh):Kw w r o=I v:=by simp[Kw,h,h1]
theorem q71 {w r o v}(h:Kw w r o=I v):w.cell? ⟨r,o,Ga⟩=I v∧v.oneCell'=Eh:=by
 unfold Kw at h;rw[Option.filter_eq_some_iff]at h;exact h
def qha (P:Program)(t:TypeId):Bool:=match P.underlying t with
 |some (.struct _)=>Eh
 |some (.array _ _)=>Eh
 |_=>Ev
def Oq (P:Program):Nat→List Field→Bool
 |_,[]=>Eh
 |o,f::fs=>f.offset == o&&Oq P (o+P.cellsOf f.type) fs
def Ot (P:Program)(fs:List Field):Nat:=(fs.map fun f=>P.cellsOf f.type).sum
def rC (P:Program):Nat→TypeId→Bool
 |0,_=>Ev
 |n+1,t=>match P.underlying t with
  |some .bool=>P.cellsOf t == 1
  |some (.int _)=>P.cellsOf t == 1
  |some .string=>P.cellsOf t == 1
  |some (.slice e)=>P.cellsOf t == 1&&rC P n e&&decide (0<P.cellsOf e)
  |some (.struct fs)=>Oq P 0 fs.toList&&Ot P fs.toList == P.cellsOf t&&fs.toList.all fun f=>rC P n f.type
  |some (.array k e)=>P.cellsOf t == k*P.cellsOf e&&rC P n e
  |_=>Ev
def HE (ty:TypeId→List qa→Prop):List Field→List qa→Prop
 | [],cs=>cs=[]
 |f::fs,cs=>∃ys zs,cs=ys++zs∧ty f.type ys∧HE ty fs zs
def HF (ty:List qa→Prop):Nat→List qa→Prop
 |0,cs=>cs=[]
 |k+1,cs=>∃ys zs,cs=ys++zs∧ty ys∧HF ty k zs
def qay (P:Program):Nat→TypeId→List qa→Prop
 |0,_,_=>False
 |n+1,t,cs=>match P.underlying t with
  |some .bool=>∃b,cs=[.bool b]
  |some (.int k)=>∃m,cs=[.int k m]∧(Lit.int k m).wf=Eh
  |some .string=>∃s,cs=[.str s]∧s.length≤maxLen
  |some (.slice e)=>cs=[.list Eh 0 []]∨∃xs,cs=[.list Ev (P.cellsOf e) xs]∧xs.length≤maxLen∧∀y∈xs,qay P n e y.flat∧y.isAgg=qha P e
  |some (.struct fs)=>HE (qay P n) fs.toList cs
  |some (.array k e)=>HF (qay P n e) k cs
  |_=>False
section
variable {P:Program}{H:Type}{enc:TypeId×Value→H}{w:World}
theorem q08:∀ (fs:List Field) (o:Nat) (vs:List Value),Oq P o fs=Eh→vs.length=o+Ot P fs→vs.drop o=(fs.map fun f=>(vs.drop f.offset).take (P.cellsOf f.type)).flatten
 | [],o,vs,_,hl=>by simp[Ot]at hl;simp[hl]
 |f::fs,o,vs,ht,hl=>by
  simp only[Oq,Ep,beq_iff_eq]at ht
  obtain⟨rfl,ht⟩:=ht
  have ih:=q08 fs _ vs ht (by simp[Ot]at hl ⊢;omega)
  rw[G9,Gv,←ih,←G5,List.take_append_drop]
theorem EI {α β:Type}{f}:∀ {l:List α} {ys:List β},l.mapM f=I ys→ys.length=l.length∧∀(i:Nat) (x:α),l[i]?=I x→∃y,ys[i]?=I y∧f x=I y
 | [],ys,h=>by simp at h;subst h;simp
 |a::l,ys,h=>by
  rw[List.mapM_cons]at h
  cases hf:f a with
  |none=>simp[hf]at h
  |some y=>
   cases hr:l.mapM f with
   |none=>simp[hf,hr]at h
   |some zs=>
    simp[hf,hr]at h
    subst h
    obtain⟨h1,h2⟩:=EI hr
    refine⟨by simp[h1],fun i x hx=>?_⟩
    cases i with
    |zero=>simp at hx;subst hx;exact⟨y,rfl,hf⟩
    |succ i=>simp at hx;obtain⟨z,h3,h4⟩:=h2 i x hx;exact⟨z,by simpa using h3,h4⟩
theorem q52 {base n a vs}(h:w.cells? base a n=I vs):vs.length=n∧∀(i:Nat) (v:Value),vs[i]?=I v→w.cell? (a.add i)=I v:=by
 unfold World.cells? at h
 split at h
 ·obtain⟨h1,h2⟩:=EI h
  rw[Gw]at h1
  refine⟨h1,fun i v hv=>?_⟩
  have hi:i<n:=by rw[←h1];exact(Gl.1 hv).1
  obtain⟨y,h3,h4⟩:=h2 i i (by rw[En hi])
  rw[hv]at h3;cases h3;exact h4
 ·cases h
theorem qwi {ty:TypeId→List qa→Prop}:∀(fs:List Field) (nc:List (List Value)),nc.length=fs.length→(∀(i:Nat) (f:Field) (vs:List Value),fs[i]?=I f→nc[i]?=I vs→∃cs,aK (.bL (Kw w)) cs vs∧ty f.type cs)→∃cs,aK (.bL (Kw w)) cs nc.flatten∧HE ty fs cs
 | [],nc,hl,_=>by
  have:nc=[]:=Gh.1 (by simpa using hl)
  subst this
  exact⟨[],.nil,rfl⟩
 |f::fs,[],hl,_=>by simp at hl
 |f::fs,vs::nc,hl,h=>by
  obtain⟨ys,h1,h2⟩:=h 0 f vs rfl rfl
  obtain⟨zs,h3,h4⟩:=qwi fs nc (by simpa using hl) (fun i f' qP hf hv=>h (i+1) f' qP (by simpa using hf) (by simpa using hv))
  exact⟨ys++zs,aK.append h1 h3,ys,zs,rfl,h2,h4⟩
theorem quu {ty}:∀(k:Nat) (nc:List (List Value)),nc.length=k→(∀(i:Nat) vs,nc[i]?=I vs→∃cs,aK (.bL (Kw w)) cs vs∧ty cs)→∃cs,aK (.bL (Kw w)) cs nc.flatten∧HF ty k cs
 |0,nc,hl,_=>by
  have:nc=[]:=Gh.1 hl
  subst this
  exact⟨[],.nil,rfl⟩
 |k+1,[],hl,_=>by simp at hl
 |k+1,vs::nc,hl,h=>by
  obtain⟨ys,h1,h2⟩:=h 0 vs rfl
  obtain⟨zs,h3,h4⟩:=quu k nc (by simpa using hl) (fun i qP hv=>h (i+1) qP (by simpa using hv))
  exact⟨ys++zs,aK.append h1 h3,ys,zs,rfl,h2,h4⟩
theorem q74 (n:Nat):∀(k:Nat) (vs:List Value),vs.length=k*n→vs=((Gc k).map fun i=>(vs.drop (i*n)).take n).flatten
 |0,vs,hl=>by
  have:vs=[]:=Gh.1 (by simpa using hl)
  simp[this]
 |k+1,vs,hl=>by
  have ih:=q74 n k (vs.drop n) (by simp[hl,Gr])
  rw[List.range_succ_eq_map,G9,Gv,List.map_map]
  have e:(Gc k).map ((fun i=>(vs.drop (i*n)).take n) ∘ Nat.succ)=(Gc k).map fun i=>((vs.drop n).drop (i*n)).take n:=by
   apply List.map_congr_left
   intro i _
   simp only[Function.comp,G5]
   congr 2
   rw[Gr];omega
  rw[e,←ih]
  simp
theorem VB:∀ {n:Nat} {t:TypeId} {cs:List qa},qay P n t cs→∀x∈cs,zd x=Eh
 |0,_,_,h=>h.elim
 |n+1,t,cs,h=>by
  have fsc:∀(fs:List Field) (cs:List qa),HE (qay P n) fs cs→∀x∈cs,zd x=Eh:=by
   intro fs
   induction fs with
   |nil=>intro cs h;simp only[HE]at h;subst h;simp
   |cons f fs ih=>
    rintro cs ⟨ys,zs,rfl,h1,h2⟩ x hx
    rcases G3.1 hx with hx|hx
    ·exact VB h1 x hx
    ·exact ih _ h2 x hx
  have rsc:∀(e:TypeId) (k:Nat) (cs:List qa),HF (qay P n e) k cs→∀x∈cs,zd x=Eh:=by
   intro e k
   induction k with
   |zero=>intro cs h;simp only[HF]at h;subst h;simp
   |succ k ih=>
    rintro cs ⟨ys,zs,rfl,h1,h2⟩ x hx
    rcases G3.1 hx with hx|hx
    ·exact VB h1 x hx
    ·exact ih _ h2 x hx
  simp only[qay]at h
  split at h
  ·obtain⟨b,rfl⟩:=h;simp[zd]
  ·obtain⟨m,rfl,_⟩:=h;simp[zd]
  ·obtain⟨s,rfl,_⟩:=h;simp[zd]
  ·rcases h with rfl|⟨xs,rfl,_⟩<;>simp[zd]
  ·exact fsc _ _ h
  ·exact rsc _ _ _ h
  ·exact h.elim
theorem qwf {n}{t:TypeId}{cs}(h:qay P n t cs)(ha:qha P t=Ev):∃x,cs=[x]∧x.isAgg=Ev:=by
 cases n with
 |zero=>exact h.elim
 |succ n=>
  unfold qha at ha
  simp only[qay]at h
  split at h
  ·obtain⟨b,rfl⟩:=h;exact⟨_,rfl,rfl⟩
  ·obtain⟨m,rfl,_⟩:=h;exact⟨_,rfl,rfl⟩
  ·obtain⟨s,rfl,_⟩:=h;exact⟨_,rfl,rfl⟩
  ·rcases h with rfl|⟨xs,rfl,_⟩<;>exact⟨_,rfl,rfl⟩
  ·rename_i hu;rw[hu]at ha;cases ha
  ·rename_i hu;rw[hu]at ha;cases ha
  ·exact h.elim
theorem read {held}:∀(n fuel:Nat) (t:TypeId) (vs:List Value) (d:DataW H) (ps:List MemPlace),rC P n t=Eh→DataW.trod enc P w 0 (fun _=>Eh) held fuel t vs=I (d,ps) →
  ∃cs,aK (.bL (Kw w)) cs vs∧qay P n t cs∧cs.length=P.cellsOf t
 |0,_,_,_,_,_,hp,_=>by simp[rC]at hp
 |n+1,0,_,_,_,_,_,h=>by simp[DataW.trod]at h
 |n+1,fuel+1,t,vs,d,ps,hp,h=>by
  simp only[rC]at hp
  simp only[qay]
  simp only[DataW.trod]at h
  cases hu:P.underlying t with
  |none=>simp[hu]at hp
  |some td=>
   rw[hu]at h hp
   cases td with
   |bool=>
    simp only[beq_iff_eq]at hp
    split at h<;>first|cases ‹I _=I _› | skip
    all_goals first|(rename_i heq;cases heq;done)|skip
    ·exact⟨_,.cons _ _ _ _ (.bool _) .nil,⟨_,rfl⟩,by simp[hp]⟩
    ·cases h
   |int k=>
    simp only[beq_iff_eq]at hp
    split at h<;>first|cases ‹I _=I _› | skip
    all_goals first|(rename_i heq;cases heq;done)|skip
    ·split at h
     ·rename_i hk
      obtain⟨rfl,cV⟩:=hk
      exact⟨_,.cons _ _ _ _ (.int _ _) .nil,⟨_,rfl,cV⟩,by simp[hp]⟩
     ·cases h
    ·cases h
   |string=>
    simp only[beq_iff_eq]at hp
    split at h<;>first|cases ‹I _=I _› | skip
    all_goals first|(rename_i heq;cases heq;done)|skip
    ·rename_i s
     split at h
     ·rename_i hk
      refine⟨[.str s.data.toList],.cons _ _ _ _ (qh.str s.data.toList) .nil,⟨_,rfl,?_⟩,by simp[hp]⟩
      simpa using hk
     ·cases h
    ·cases h
   |slice e=>
    simp only[Ep,beq_iff_eq,decide_eq_true_eq]at hp
    obtain⟨⟨jO,Ou⟩,hp3⟩:=hp
    split at h<;>first|cases ‹I _=I _› | skip
    all_goals first|(rename_i heq;cases heq;done)|skip
    ·exact⟨_,.cons _ _ _ _ (.iV 0) .nil,.inl rfl,by simp[jO]⟩
    ·rename_i a len cap
     split at h
     ·rename_i hk
      obtain⟨_,cV,hk3⟩:=hk
      cases he:(Gc len).mapM (fun i=>(w.cells? 0 (a.add (i*P.cellsOf e)) (P.cellsOf e)).bind (DataW.trod enc P w 0 (fun _=>Eh) held fuel e))with
      |none=>simp[he]at h
      |some elems=>
       simp only[he,G2,if_true]at h
       cases hr:(Gc (cap-len)).mapM (fun j=>(w.cells? 0 (a.add ((len+j)*P.cellsOf e)) (P.cellsOf e)).bind (DataW.trod enc P w 0 (fun _=>Eh) held fuel e))with
       |none=>simp[hr]at h
       |some rest=>
        obtain⟨he1,N5⟩:=EI he
        obtain⟨vX,qY⟩:=EI hr
        rw[Gw]at he1 vX
        have HG:0<cap→a.spot=Ga:=fun hc=>by
         have pC:∃z,(w.cells? 0 (a.add (0*P.cellsOf e)) (P.cellsOf e)).bind (DataW.trod enc P w 0 (fun _=>Eh) held fuel e)=I z:=by
          by_cases hl:0<len
          ·obtain⟨y,_,hy⟩:=N5 0 0 (by rw[En hl]);exact⟨y,hy⟩
          ·obtain⟨y,_,hy⟩:=qY 0 0 (by rw[En (by omega)])
           have Gf:len=0:=by omega
           subst Gf
           exact⟨y,by simpa using hy⟩
         obtain⟨z0,pC⟩:=pC
         cases Ov:w.cells? 0 (a.add (0*P.cellsOf e)) (P.cellsOf e)with
         |none=>rw[Ov]at pC;cases pC
         |some us0=>
          obtain⟨d1,d2⟩:=q52 Ov
          have dj:=d2 0 _ (List.getElem?_eq_getElem (show 0<us0.length by omega))
          have:=World.cell?_spot dj
          simpa[Addr.add]using this
        by_cases hcap:0<cap
        ·have Od:=HG hcap
         obtain⟨r,o,sp⟩:=a
         simp only at Od
         subst Od
         have elem:∀(i:Nat),i<len→∃y:qa,bZ (.bL (Kw w)) r y.flat (o+i*P.cellsOf e)∧y.flat.length=P.cellsOf e∧qay P n e y.flat∧y.isAgg=qha P e:=by
          intro i hi
          obtain⟨z,_,hz⟩:=N5 i i (by rw[En hi])
          cases hc:w.cells? 0 ((⟨r,o,Ga⟩:Addr).add (i*P.cellsOf e)) (P.cellsOf e)with
          |none=>simp[hc]at hz
          |some us=>
           simp only[hc,G2]at hz
           obtain⟨c1,c2⟩:=q52 hc
           obtain⟨cs,k1,k2,k3⟩:=read n fuel e us z.1 z.2 Ou hz
           have cI:=Ak k1 (VB k2)
           have hcs:bZ (.bL (Kw w)) r cs (o+i*P.cellsOf e):=bZ.gX k1 fun j v hj=>by
            have h1:=c2 j v hj
            rw[add_lit,add_lit]at h1
            exact j0x h1 (cI v (Gi hj))
           cases cK:qha P e with
           |true=>exact⟨.agg cs,hcs,k3,k2,rfl⟩
           |false=>
            obtain⟨x,rfl,hx⟩:=qwf k2 cK
            have hf:x.flat=[x]:=qcb hx
            exact⟨x,by rw[hf];exact hcs,by rw[hf];exact k3,by rw[hf];exact k2,hx⟩
         have rows:∀(m:Nat) (q:Nat),q+m=len→∃ys:List qa,ys.length=m∧bg (.bL (Kw w)) r (P.cellsOf e) ys (o+q*P.cellsOf e)∧∀y∈ys,qay P n e y.flat∧y.isAgg=qha P e:=by
          intro m
          induction m with
          |zero=>intro q _;exact⟨[],rfl,.fj _ _ _,by simp⟩
          |succ m ih=>
           intro q hq
           obtain⟨ys,y1,y2,y3⟩:=ih (q+1) (by omega)
           obtain⟨y,z1,z2,z3⟩:=elem q (by omega)
           refine⟨y::ys,by simp[y1],.cY _ _ _ _ _ z2 z1 ?_,?_⟩
           ·rw[show o+q*P.cellsOf e+P.cellsOf e=o+(q+1)*P.cellsOf e from by rw[Gr];omega];exact y2
           ·intro x hx
            rcases List.mem_cons.1 hx with rfl|hx
            ·exact z3
            ·exact y3 x hx
         obtain⟨ys,y1,y2,y3⟩:=rows len 0 (by omega)
         rw[Nat.zero_mul,Nat.add_zero]at y2
         subst y1
         exact⟨_,.cons _ _ _ _ (.list (P.cellsOf e) ys r o cap cV y2) .nil,.inr ⟨ys,rfl,by omega,y3⟩,by simp[jO]⟩
        ·have Ov:cap=0:=by omega
         have Gf:len=0:=by omega
         subst Ov;subst Gf
         by_cases l7:a.spot=Ga
         ·obtain⟨r,o,sp⟩:=a
          simp only at l7
          subst l7
          exact⟨_,.cons _ _ _ _ (.list (P.cellsOf e) [] r o 0 (by simp) (.fj _ _ _)) .nil,.inr ⟨[],rfl,by simp,by simp⟩,by simp[jO]⟩
         ·exact⟨_,.cons _ _ _ _ (.iW (P.cellsOf e) a l7) .nil,.inr ⟨[],rfl,by simp,by simp⟩,by simp[jO]⟩
     ·cases h
    ·cases h
   |struct fs=>
    simp only[Ep,beq_iff_eq,List.all_eq_true]at hp
    obtain⟨⟨jO,Ou⟩,hp3⟩:=hp
    change (if vs.length=P.cellsOf t then(fs.toList.mapM fun f=>DataW.trod enc P w 0 (fun _=>Eh) held fuel f.type ((vs.drop f.offset).take (P.cellsOf f.type))).map fun xs=>(DataW.agg (xs.map (·.1)),xs.flatMap (·.2))else Ga)=I (d,ps)at h
    ·split at h
     ·rename_i hl
      cases hm:fs.toList.mapM (fun f=>DataW.trod enc P w 0 (fun _=>Eh) held fuel f.type ((vs.drop f.offset).take (P.cellsOf f.type)))with
      |none=>simp[hm]at h
      |some zs=>
       obtain⟨m1,m2⟩:=EI hm
       have AZ:=q08 fs.toList 0 vs jO (by omega)
       obtain⟨cs,k1,k2⟩:=qwi (w:=w) (ty:=qay P n) fs.toList (fs.toList.map fun f=>(vs.drop f.offset).take (P.cellsOf f.type)) (by simp) (fun i f us hf hv=>by
        obtain⟨z,_,hz⟩:=m2 i f hf
        have gw:us=(vs.drop f.offset).take (P.cellsOf f.type):=by
         rw[Gx,hf]at hv
         simpa using hv.symm
        subst gw
        obtain⟨cs,q1,q2,_⟩:=read n fuel f.type _ z.1 z.2 (hp3 f (Gi hf)) hz
        exact⟨cs,q1,q2⟩)
       rw[←AZ]at k1
       exact⟨cs,by simpa using k1,k2,by have:=k1.length;simp at this;omega⟩
     ·cases h
   |array k e=>
    simp only[Ep,beq_iff_eq]at hp
    obtain⟨jO,Ou⟩:=hp
    change (if vs.length=P.cellsOf t then((Gc k).mapM fun i=>DataW.trod enc P w 0 (fun _=>Eh) held fuel e ((vs.drop (i*P.cellsOf e)).take (P.cellsOf e))).map fun xs=>(DataW.agg (xs.map (·.1)),xs.flatMap (·.2))else Ga)=I (d,ps)at h
    ·split at h
     ·rename_i hl
      cases hm:(Gc k).mapM (fun i=>DataW.trod enc P w 0 (fun _=>Eh) held fuel e ((vs.drop (i*P.cellsOf e)).take (P.cellsOf e)))with
      |none=>simp[hm]at h
      |some zs=>
       obtain⟨m1,m2⟩:=EI hm
       have AZ:=q74 (P.cellsOf e) k vs (by omega)
       obtain⟨cs,k1,k2⟩:=quu (w:=w) (ty:=qay P n e) k ((Gc k).map fun i=>(vs.drop (i*P.cellsOf e)).take (P.cellsOf e)) (by simp) (fun i us hv=>by
        have hi:i<k:=by
         have:=(Gl.1 hv).1
         simpa using this
        obtain⟨z,_,hz⟩:=m2 i i (by rw[En hi])
        have gw:us=(vs.drop (i*P.cellsOf e)).take (P.cellsOf e):=by
         rw[Gx,En hi]at hv
         simpa using hv.symm
        subst gw
        obtain⟨cs,q1,q2,_⟩:=read n fuel e _ z.1 z.2 Ou hz
        exact⟨cs,q1,q2⟩)
       rw[←AZ]at k1
       exact⟨cs,k1,k2,by have:=k1.length;omega⟩
     ·cases h
   |_=>simp at hp
end
open Go.ChangeShapes Go.WideShapes Go.ChangeAt Go.RowKit
section
variable {P:Program}{H:Type}{enc:TypeId×Value→H}{w:World}
def jd2 (P:Program)(n:Nat)(t:TypeId)(x:qa):Prop:=qay P n t x.flat∧x.isAgg=qha P t
def qpz (P:Program)(n:Nat):List TypeId→List qa→Prop
 | [],xs=>xs=[]
 |t::ts,xs=>∃y ys,xs=y::ys∧jd2 P n t y∧qpz P n ts ys
theorem jod {n}{t:TypeId}{v d ps base}(hp:rC P n t=Eh)(hv:Value.okWide P w .any base t v)(h:DataW.Trod enc P w 0 (fun _=>Eh) Eh t v d ps):∃x,bG (.bL (Kw w)) x v∧jd2 P n t x:=by
 obtain⟨fuel,hf⟩:=h
 obtain⟨cs,k1,k2,k3⟩:=read n fuel t _ d ps hp hf
 cases cK:qha P t with
 |true=>
  have GZ:∃cells,v=.agg cells:=by
   unfold qha at cK
   unfold Value.okWide at hv
   split at cK
   ·rename_i fs hu;rw[hu]at hv;obtain⟨c,hc,_⟩:=hv;exact⟨c,hc⟩
   ·rename_i a b hu;rw[hu]at hv;obtain⟨c,hc,_⟩:=hv;exact⟨c,hc⟩
   ·cases cK
  obtain⟨cells,rfl⟩:=GZ
  exact⟨.agg cs,.agg cs cells.toList k1,k2,cK.symm⟩
 |false=>
  obtain⟨x,rfl,hx⟩:=qwf k2 cK
  have GZ:v.cells.toList=[v]:=by
   cases v with
   |agg c=>
    exfalso
    unfold Value.okWide at hv
    unfold qha at cK
    cases n with
    |zero=>simp[rC]at hp
    |succ n=>
     simp only[rC]at hp
     cases hu:P.underlying t with
     |none=>rw[hu]at hp;cases hp
     |some td=>rw[hu]at hp hv cK;cases td<;>first|(simp at hp;done)|(simp at cK;done)|(simp[Cell.okWide,hu,Cell.ok]at hv;done)
   |_=>rfl
  rw[GZ]at k1
  cases k1 with
  |cons _ _ _ _ h1 _=>exact⟨x,h1,by rw[qcb hx];exact k2,by rw[hx,cK]⟩
theorem q7t {n}:∀ {ts:List TypeId} {vs:List Value} {ds:List (DataW H)} {ps:List MemPlace},ts.all (rC P n)=Eh→(∀(j:Nat) t v,ts[j]?=I t→vs[j]?=I v→∃base,Value.okWide P w .any base t v)→DataW.TrodAll enc P w 0 (fun _=>Eh) Eh ts vs ds ps →
  ds.length=ts.length∧∃xs,aK (.bL (Kw w)) xs vs∧qpz P n ts xs
 | [],[],[],ps,_,_,_=>⟨rfl,[],.nil,rfl⟩
 | [],[],_::_,ps,_,_,h=>by simp[DataW.TrodAll]at h
 | [],_::_,_,ps,_,_,h=>by simp[DataW.TrodAll]at h
 |_::_,[],_,ps,_,_,h=>by simp[DataW.TrodAll]at h
 |_::_,_::_,[],ps,_,_,h=>by simp[DataW.TrodAll]at h
 |t::ts,v::vs,d::ds,ps,hp,hv,h=>by
  obtain⟨p,q,h1,h2,_⟩:=h
  simp only[Ha,Ep]at hp
  obtain⟨base,hb⟩:=hv 0 t v rfl rfl
  obtain⟨x,k1,k2⟩:=jod hp.1 hb h1
  obtain⟨hl,xs,k3,k4⟩:=q7t hp.2 (fun j t' v' ht AO=>hv (j+1) t' v' (by simpa using ht) (by simpa using AO)) h2
  exact⟨by simp[hl],x::xs,.cons _ _ _ _ k1 k3,x,xs,rfl,k2,k4⟩
theorem Ext.frame {w'}(h:Ext w w')(may:MemPlace→Prop):w.keptBut w' may:=by
 refine⟨h.os,h.output,fun i hi=>?_⟩
 rw[h.same i hi]
 split<;>simp_all
theorem Ext.sameAt {w'}(h:Ext w w'){p}(hp:p.block<w.heap.size):w.sameAt w' p:=by
 cases p with
 |cell b o=>exact World.cell?_of_block (w:=w) (h.same b hp)
 |map b=>exact h.same b hp
theorem q39 {w'}(hx:Ext w w')(hl:laidOutB P=Eh):∀ {ts:List TypeId} {vs:List Value} {ds:List (DataW H)} {ps:List MemPlace},ts.all (fun t=>P.readableRec t&&decide (t<P.types.size))=Eh→DataW.TrodAll enc P w 0 (fun _=>Eh) Eh ts vs ds ps →
  DataW.TrodAll enc P w' 0 (fun b=>decide (b<w.heap.size)) Eh ts vs ds ps
 | [],[],[],ps,_,h=>h
 | [],[],_::_,ps,_,h=>by simp[DataW.TrodAll]at h
 | [],_::_,_,ps,_,h=>by simp[DataW.TrodAll]at h
 |_::_,[],_,ps,_,h=>by simp[DataW.TrodAll]at h
 |_::_,_::_,[],ps,_,h=>by simp[DataW.TrodAll]at h
 |t::ts,v::vs,d::ds,ps,hr,h=>by
  obtain⟨p,q,h1,h2,h3⟩:=h
  simp only[Ha,Ep,decide_eq_true_eq]at hr
  have bh:∀x∈p,x.block<w.heap.size:=by obtain⟨m,hm⟩:=h1;exact DataW.trod_lt m _ _ _ hm
  exact⟨p,q,WideElems.Trod_stays hl hr.1.1 hr.1.2 h1 (fun x hm=>hx.sameAt (bh x hm)) (fun x hm=>by simpa using bh x hm),q39 hx hl hr.2 h2,h3⟩
end
def oD (f g:XC):Prop:=∀c st r,f c st=I r→g c st=I r
section
variable {p:qr}{f g:XC}
theorem q1o (h:oD f g){af args hp r}(hr:pk f af args hp=I r):pk g af args hp=I r:=by
 unfold pk at *
 cases hb:Gy args.length af.ntmps with
 |false=>simp[hb]at hr
 |true=>
  simp only[hb,cT]at hr ⊢
  split at hr
  ·rename_i st bO;rw[h _ _ _ bO];exact hr
  ·rename_i st bO;rw[h _ _ _ bO];exact hr
  ·cases hr
theorem VC (h:oD f g){k args hp r}(hr:ze p f k args hp=I r):ze p g k args hp=I r:=by
 unfold ze at *
 split at hr
 ·exact q1o h hr
 ·exact hr
theorem VD (h:oD f g){k args r}(hr:jy p f k args=I r):jy p g k args=I r:=by
 unfold jy at *
 split at hr
 ·exact hr
 ·split at hr
  ·rename_i v o hh hc;rw[VC h hc];exact hr
  ·cases hr
theorem q2v (h:oD f g){b args hp r}(hr:jY f b args hp=I r):jY g b args hp=I r:=by
 unfold jY at *
 split at hr
 ·split at hr
  ·split at hr
   ·rename_i st bO
    rw[h _ _ _ bO]
    simp only[]
    split at hr
    ·rename_i l1 gK
     cases jO:l1.pending.isNone with
     |false=>simp[jO]at hr
     |true=>
      simp only[jO,cT]at hr ⊢
      split at hr
      ·rename_i x bF gP
       rw[h _ _ _ gP]
       exact hr
      ·cases hr
    ·cases hr
   ·cases hr
  ·cases hr
 ·cases hr
theorem q1m (h:oD f g){h0 e hp md x l r}(hr:iI p f h0 e hp md x l=I r):iI p g h0 e hp md x l=I r:=by
 unfold iI at *
 split at hr
 ·cases md with
  |bL=>
   simp only[]at hr ⊢
   rename_i k first captured vs _ _
   cases hb:zr 0 (first++vs++captured)with
   |false=>rw[hb]at hr;cases hr
   |true=>
    rw[hb]at hr
    simp only[cT]at hr ⊢
    split at hr
    ·rename_i v o hc;rw[VD h hc];exact hr
    ·cases hr
  |red=>
   simp only[]at hr ⊢
   split at hr
   ·rename_i us hf
    cases hb:zr 0 us with
    |false=>rw[hb]at hr;cases hr
    |true=>
     rw[hb]at hr
     simp only[cT]at hr ⊢
     split at hr
     ·rename_i v o hc;rw[VD h hc];exact hr
     ·cases hr
   ·cases hr
  |fg _=>
   simp only[]at hr ⊢
   rename_i k first captured vs _ _ _
   cases he:(first++vs++captured).isEmpty with
   |true=>rw[he]at hr;exact hr
   |false=>
    rw[he]at hr
    simp only[cond_false]at hr ⊢
    cases hb:zr 0 (first++vs++captured)with
    |false=>rw[hb]at hr;cases hr
    |true=>
     rw[hb]at hr
     simp only[cT]at hr ⊢
     split at hr
     ·rename_i v o hc;rw[VD h hc];exact hr
     ·cases hr
  |shr=>
   simp only[]at hr ⊢
   split at hr
   ·rename_i v o hh hc;rw[VC h hc];exact hr
   ·cases hr
 ·cases md with
  |shr=>
   simp only[]at hr ⊢
   split at hr
   ·rename_i v hh hc;rw[q2v h hc];exact hr
   ·cases hr
  |_=>simp at hr
 ·cases hr
theorem q6n (h:oD f g){h0 al e hp op r}(hr:j8 p f h0 al e hp op=I r):j8 p g h0 al e hp op=I r:=by
 cases op with
 |call md x l=>exact q1m h hr
 |append rk sz b x y=>cases rk<;>exact hr
 |bV rk sz b z n c=>cases rk<;>exact hr
 |_=>exact hr
theorem qq3 (h:oD f g){h0 o st bF}(hr:iJ p f h0 o st=I bF):iJ p g h0 o st=I bF:=by
 unfold iJ at *
 split at hr
 ·split at hr
  ·rename_i r hs;rw[q6n h hs];exact hr
  ·cases hr
 ·exact hr
 ·cases hr
theorem VE (h:oD f g){h0}:∀ {l:List qx} {st bF:qg},fG p f h0 l st=I bF→fG p g h0 l st=I bF
 | [],_,_,hr=>hr
 |o::l,st,bF,hr=>by
  simp only[fG]at hr ⊢
  split at hr
  ·rename_i s1 h1;rw[qq3 h h1];exact VE h hr
  ·cases hr
theorem qtq (h:oD f g){na l k st r}(hr:mM p f na l k st=I r):mM p g na l k st=I r:=by
 unfold mM at *
 split at hr
 ·rename_i s1 h1;rw[VE h h1];exact hr
 ·cases hr
theorem qut (h:oD f g){x ps a b st r}(hr:mN p f x ps a b st=I r):mN p g x ps a b st=I r:=by
 unfold mN at *
 cases hn:(kx a&&kx b)with
 |false=>simp[hn]at hr
 |true=>
  simp only[hn,cT]at hr ⊢
  split at hr
  ·split at hr
   ·rename_i v o hh hc;rw[VC h hc];exact hr
   ·cases hr
  ·cases hr
end
theorem qyx (p:qr):∀n,oD (ye p n) (ye p (n+1))
 |0=>fun c st r h=>by simp[ye]at h
 |n+1=>by
  have ih:=qyx p n
  intro c st r h
  cases c with
  |region na l k=>simp only[ye]at h ⊢;exact qtq ih h
  |rangeFunc f ps a b=>simp only[ye]at h ⊢;exact qut ih h
  |seq a b=>
   rw[ye]at h ⊢
   split at h
   ·rename_i gQ h1
    rw[ih _ _ _ h1];exact ih _ _ _ h
   ·rename_i bu
    rw[ih _ _ _ h]
    split
    ·rename_i gQ h1;cases h1;exact absurd h (bu _)
    ·rfl
  |cond c a b=>
   rw[ye]at h ⊢
   split at h
   ·rename_i t ht
    cases t
    ·simp only[cond_false]at h ⊢;exact ih _ _ _ h
    ·simp only[cT]at h ⊢;exact ih _ _ _ h
   ·cases h
  |block id b=>
   rw[ye]at h ⊢
   split at h
   ·rename_i ft gQ h1
    rw[ih _ _ _ h1];exact h
   ·rename_i bu
    rw[ih _ _ _ h]
    split
    ·rename_i ft gQ h1;cases h1;exact absurd h (bu _ _)
    ·rfl
  |loop b=>
   rw[ye]at h ⊢
   split at h
   ·rename_i gQ h1
    rw[ih _ _ _ h1];exact ih _ _ _ h
   ·rename_i bu
    rw[ih _ _ _ h]
    split
    ·rename_i gQ h1;cases h1;exact absurd h (bu _)
    ·rfl
  |_=>exact h
theorem uX (p:qr){n m}(h:n≤m):oD (ye p n) (ye p m):=by
 induction h with
 |refl=>exact fun _ _ _ h=>h
 |step _ ih=>exact fun c st r hr=>qyx p _ c st r (ih c st r hr)
open Classical in
noncomputable def X (p:qr):XC:=fun c st=>if h:∃r n,ye p n c st=I r then I (Classical.choose h)else Ga
theorem eE {p c st r}:X p c st=I r↔∃n,ye p n c st=I r:=by
 unfold X
 constructor
 ·intro h
  split at h
  ·rename_i hh
   cases h
   exact Classical.choose_spec hh
  ·cases h
 ·rintro ⟨n,hn⟩
  have hh:∃r n,ye p n c st=I r:=⟨r,n,hn⟩
  rw[dif_pos hh]
  obtain⟨m,hm⟩:=Classical.choose_spec hh
  have h1:=uX p (Ge n m) _ _ _ hn
  have h2:=uX p (Gb n m) _ _ _ hm
  rw[h1]at h2
  exact h2.symm
theorem pD {p}(n:Nat):oD (ye p n) (X p):=fun _ _ _ h=>eE.2 ⟨n,h⟩
section
variable {p:qr}
theorem q3l {af args hp r}(hr:pk (X p) af args hp=I r):∃n,pk (ye p n) af args hp=I r:=by
 have hr0:=hr
 unfold pk at hr
 cases hb:Gy args.length af.ntmps with
 |false=>simp[hb]at hr
 |true=>
  simp only[hb,cT]at hr
  have key:∀ {r'},X p af.body ⟨ot 0 args,hp⟩=I r'→∃n,pk (ye p n) af args hp=I r:=by
   intro r' h
   obtain⟨n,hn⟩:=eE.1 h
   refine⟨n,?_⟩
   unfold pk
   rw[hb,hn]
   rw[h]at hr
   exact hr
  split at hr
  ·rename_i st bO;exact key bO
  ·rename_i st bO;exact key bO
  ·cases hr
theorem VF {k args hp r}(hr:ze p (X p) k args hp=I r):∃n,ze p (ye p n) k args hp=I r:=by
 unfold ze at *
 cases h:p.bB k with
 |none=>rw[h]at hr;exact⟨0,hr⟩
 |some f=>rw[h]at hr;exact q3l hr
theorem Ow {k args r}(hr:jy p (X p) k args=I r):∃n,jy p (ye p n) k args=I r:=by
 unfold jy at *
 cases h:p.cn k with
 |some f=>rw[h]at hr;exact⟨0,hr⟩
 |none=>
  rw[h]at hr
  simp only[]at hr ⊢
  split at hr
  ·rename_i v o hh hc
   obtain⟨n,hn⟩:=VF hc
   exact⟨n,by rw[hn];exact hr⟩
  ·cases hr
theorem q69 {b args hp r}(hr:jY (X p) b args hp=I r):∃n,jY (ye p n) b args hp=I r:=by
 unfold jY at hr
 split at hr
 ·rename_i l hl
  split at hr
  ·rename_i e wj hse
   split at hr
   ·rename_i st bO
    split at hr
    ·rename_i l1 gK
     cases jO:l1.pending.isNone with
     |false=>simp[jO]at hr
     |true=>
      simp only[jO,cT]at hr
      split at hr
      ·rename_i x bF gP
       obtain⟨n,hn⟩:=eE.1 bO
       obtain⟨m,hm⟩:=eE.1 gP
       refine⟨max n m,?_⟩
       have h1:=uX p (Ge n m) _ _ _ hn
       have h2:=uX p (Gb n m) _ _ _ hm
       simp only[jY,hl,wj,hse,h1,gK,jO,cT,h2]
       exact hr
      ·cases hr
    ·cases hr
   ·cases hr
  ·cases hr
 ·cases hr
theorem q23 {h0 e hp md x l r}(hr:iI p (X p) h0 e hp md x l=I r):∃n,iI p (ye p n) h0 e hp md x l=I r:=by
 unfold iI at hr
 split at hr
 ·rename_i k first captured vs e1 e2
  cases md with
  |bL=>
   simp only[]at hr
   cases hb:zr 0 (first++vs++captured)with
   |false=>rw[hb]at hr;cases hr
   |true=>
    rw[hb]at hr
    simp only[cT]at hr
    split at hr
    ·rename_i v o hc
     obtain⟨n,hn⟩:=Ow hc
     refine⟨n,?_⟩
     simp only[iI,e1,e2,hn]
     rw[hb]
     exact hr
    ·cases hr
  |red=>
   simp only[]at hr
   split at hr
   ·rename_i us hf
    cases hb:zr 0 us with
    |false=>rw[hb]at hr;cases hr
    |true=>
     rw[hb]at hr
     simp only[cT]at hr
     split at hr
     ·rename_i v o hc
      obtain⟨n,hn⟩:=Ow hc
      refine⟨n,?_⟩
      simp only[iI,e1,e2,hf,hn]
      rw[hb]
      exact hr
     ·cases hr
   ·cases hr
  |fg _=>
   simp only[]at hr
   cases he:(first++vs++captured).isEmpty with
   |true=>exact⟨0,by simp only[iI,e1,e2,he];rw[he]at hr;exact hr⟩
   |false=>
    rw[he]at hr
    simp only[cond_false]at hr
    cases hb:zr 0 (first++vs++captured)with
    |false=>rw[hb]at hr;cases hr
    |true=>
     rw[hb]at hr
     simp only[cT]at hr
     split at hr
     ·rename_i v o hc
      obtain⟨n,hn⟩:=Ow hc
      refine⟨n,?_⟩
      simp only[iI,e1,e2,hn]
      rw[he,hb]
      exact hr
     ·cases hr
  |shr=>
   simp only[]at hr
   split at hr
   ·rename_i v o hh hc
    obtain⟨n,hn⟩:=VF hc
    refine⟨n,?_⟩
    simp only[iI,e1,e2,hn]
    exact hr
   ·cases hr
 ·rename_i b vs e1 e2
  cases md with
  |shr=>
   simp only[]at hr
   split at hr
   ·rename_i v hh hc
    obtain⟨n,hn⟩:=q69 hc
    refine⟨n,?_⟩
    simp only[iI,e1,e2,hn]
    exact hr
   ·cases hr
  |_=>simp at hr
 ·cases hr
theorem jbq {h0 al e hp op r}(hr:j8 p (X p) h0 al e hp op=I r):∃n,j8 p (ye p n) h0 al e hp op=I r:=by
 cases op with
 |call md x l=>exact q23 hr
 |append rk sz b x y=>cases rk<;>exact⟨0,hr⟩
 |bV rk sz b z n c=>cases rk<;>exact⟨0,hr⟩
 |_=>exact⟨0,hr⟩
theorem q5p {h0 o st bF}(hr:iJ p (X p) h0 o st=I bF):∃n,iJ p (ye p n) h0 o st=I bF:=by
 unfold iJ at *
 cases hg:mL st.env o.guard with
 |none=>simp[hg]at hr
 |some b=>
  rw[hg]at hr
  cases b with
  |false=>exact⟨0,hr⟩
  |true=>
   simp only[]at hr ⊢
   split at hr
   ·rename_i r hs
    obtain⟨n,hn⟩:=jbq hs
    exact⟨n,by rw[hn];exact hr⟩
   ·cases hr
theorem q28 {h0}:∀ {l:List qx} {st bF:qg},fG p (X p) h0 l st=I bF→∃n,fG p (ye p n) h0 l st=I bF
 | [],_,_,hr=>⟨0,hr⟩
 |o::l,st,bF,hr=>by
  simp only[fG]at hr
  split at hr
  ·rename_i s1 h1
   obtain⟨n,hn⟩:=q5p h1
   obtain⟨m,hm⟩:=q28 hr
   refine⟨max n m,?_⟩
   simp only[fG]
   rw[qq3 (uX p (Ge n m)) hn]
   exact VE (uX p (Gb n m)) hm
  ·cases hr
theorem q6r {na l k st r}(hr:mM p (X p) na l k st=I r):∃n,mM p (ye p n) na l k st=I r:=by
 unfold mM at hr
 split at hr
 ·rename_i s1 h1
  obtain⟨n,hn⟩:=q28 h1
  exact⟨n,by unfold mM;rw[hn];exact hr⟩
 ·cases hr
theorem ja8 {x ps a b st r}(hr:mN p (X p) x ps a b st=I r):∃n,mN p (ye p n) x ps a b st=I r:=by
 unfold mN at hr
 cases hn:(kx a&&kx b)with
 |false=>simp[hn]at hr
 |true=>
  simp only[hn,cT]at hr
  split at hr
  ·rename_i k first captured gA
   split at hr
   ·rename_i v o hh hc
    obtain⟨n,iL⟩:=VF hc
    refine⟨n,?_⟩
    unfold mN
    rw[hn,gA]
    simp only[cT]
    rw[iL]
    exact hr
   ·cases hr
  ·cases hr
theorem A2 {α:Type}{x y:Option α}(h1:∀r,x=I r→y=I r)(h2:∀r,y=I r→x=I r):x=y:=by
 cases x with
 |none=>
  cases y with
  |none=>rfl
  |some r=>exact(h2 r rfl)
 |some r=>exact(h1 r rfl).symm
theorem jup {st}:X p .skip st=I (.normal,st):=eE.2 ⟨1,rfl⟩
theorem ju8 {id st}:X p (.exit id) st=I (.exit id,st):=eE.2 ⟨1,rfl⟩
theorem j0r {st}:X p .ret st=I (.ret,st):=eE.2 ⟨1,rfl⟩
theorem jij {na:Nat}{l:List qx}{k st}:X p (.region na l k) st=mM p (X p) na l k st:=by
 refine A2 (fun r h=>?_) (fun r h=>?_)
 ·obtain⟨n,hn⟩:=eE.1 h
  cases n with
  |zero=>simp[ye]at hn
  |succ n=>simp only[ye]at hn;exact qtq (pD n) hn
 ·obtain⟨n,hn⟩:=q6r h
  exact eE.2 ⟨n+1,by simp only[ye];exact hn⟩
theorem VG {x:qp}{ps:List Nat}{a b st}:X p (.rangeFunc x ps a b) st=mN p (X p) x ps a b st:=by
 refine A2 (fun r h=>?_) (fun r h=>?_)
 ·obtain⟨n,hn⟩:=eE.1 h
  cases n with
  |zero=>simp[ye]at hn
  |succ n=>simp only[ye]at hn;exact qut (pD n) hn
 ·obtain⟨n,hn⟩:=ja8 h
  exact eE.2 ⟨n+1,by simp only[ye];exact hn⟩
theorem j1g {a b:qe}{st:qg}:X p (.seq a b) st=match X p a st with
  |some (.normal,bF)=>X p b bF
  |r=>r:=by
 refine A2 (fun r h=>?_) (fun r h=>?_)
 ·obtain⟨n,hn⟩:=eE.1 h
  cases n with
  |zero=>simp[ye]at hn
  |succ n=>
   rw[ye]at hn
   split at hn
   ·rename_i gQ h1;rw[pD n _ _ _ h1];exact pD n _ _ _ hn
   ·rename_i bu
    rw[pD n _ _ _ hn]
    split
    ·rename_i gQ h1;cases h1;exact absurd hn (bu _)
    ·rfl
 ·split at h
  ·rename_i gQ h1
   obtain⟨n,hn⟩:=eE.1 h1
   obtain⟨m,hm⟩:=eE.1 h
   refine eE.2 ⟨max n m+1,?_⟩
   rw[ye,uX p (Ge n m) _ _ _ hn]
   exact uX p (Gb n m) _ _ _ hm
  ·rename_i bu
   obtain⟨n,hn⟩:=eE.1 h
   refine eE.2 ⟨n+1,?_⟩
   rw[ye,hn]
   split
   ·rename_i gQ h1;cases h1;exact absurd h (bu _)
   ·rfl
theorem jsh {c:qp}{a b:qe}{st}:X p (.cond c a b) st=match zc st.env c with
  |some (.bool t)=>bif t then X p a st else X p b st
  |_=>Ga:=by
 refine A2 (fun r h=>?_) (fun r h=>?_)
 ·obtain⟨n,hn⟩:=eE.1 h
  cases n with
  |zero=>simp[ye]at hn
  |succ n=>
   rw[ye]at hn
   split at hn
   ·rename_i t ht
    rw[ht]
    cases t
    ·simp only[cond_false]at hn ⊢;exact pD n _ _ _ hn
    ·simp only[cT]at hn ⊢;exact pD n _ _ _ hn
   ·cases hn
 ·split at h
  ·rename_i t ht
   cases t
   ·simp only[cond_false]at h
    obtain⟨n,hn⟩:=eE.1 h
    exact eE.2 ⟨n+1,by rw[ye,ht];exact hn⟩
   ·simp only[cT]at h
    obtain⟨n,hn⟩:=eE.1 h
    exact eE.2 ⟨n+1,by rw[ye,ht];exact hn⟩
  ·cases h
theorem jm6 {id:Nat}{b:qe}{st}:X p (.block id b) st=match X p b st with
  |some (.exit ft,bF)=>bif Gk ft id then I (.normal,bF)else I (.exit ft,bF)
  |r=>r:=by
 refine A2 (fun r h=>?_) (fun r h=>?_)
 ·obtain⟨n,hn⟩:=eE.1 h
  cases n with
  |zero=>simp[ye]at hn
  |succ n=>
   rw[ye]at hn
   split at hn
   ·rename_i ft gQ h1;rw[pD n _ _ _ h1];exact hn
   ·rename_i bu
    rw[pD n _ _ _ hn]
    split
    ·rename_i ft gQ h1;cases h1;exact absurd hn (bu _ _)
    ·rfl
 ·split at h
  ·rename_i ft gQ h1
   obtain⟨n,hn⟩:=eE.1 h1
   exact eE.2 ⟨n+1,by rw[ye,hn];exact h⟩
  ·rename_i bu
   obtain⟨n,hn⟩:=eE.1 h
   refine eE.2 ⟨n+1,?_⟩
   rw[ye,hn]
   split
   ·rename_i ft gQ h1;cases h1;exact absurd h (bu _ _)
   ·rfl
theorem jtb {b:qe}{st:qg}:X p (.loop b) st=match X p b st with
  |some (.normal,bF)=>X p (.loop b) (gc st.heap.length bF)
  |r=>r:=by
 refine A2 (fun r h=>?_) (fun r h=>?_)
 ·obtain⟨n,hn⟩:=eE.1 h
  cases n with
  |zero=>simp[ye]at hn
  |succ n=>
   rw[ye]at hn
   split at hn
   ·rename_i gQ h1;rw[pD n _ _ _ h1];exact pD n _ _ _ hn
   ·rename_i bu
    rw[pD n _ _ _ hn]
    split
    ·rename_i gQ h1;cases h1;exact absurd hn (bu _)
    ·rfl
 ·split at h
  ·rename_i gQ h1
   obtain⟨n,hn⟩:=eE.1 h1
   obtain⟨m,hm⟩:=eE.1 h
   refine eE.2 ⟨max n m+1,?_⟩
   rw[ye,uX p (Ge n m) _ _ _ hn]
   exact uX p (Gb n m) _ _ _ hm
  ·rename_i bu
   obtain⟨n,hn⟩:=eE.1 h
   refine eE.2 ⟨n+1,?_⟩
   rw[ye,hn]
   split
   ·rename_i gQ h1;cases h1;exact absurd h (bu _)
   ·rfl
theorem jub {sz:Nat}{st:qg}:X p (.grow sz) st=match yd 0 st.env,yd 1 st.env with
   |some (.list Eh _ _,_),I (.int .i64 (.ofNat m),_)=>bif G6 0 m&&Gy m 1073741824 then I (.normal,{ st with env:=[(0,.list Ev sz [],Eh)] })else Ga
   |_,_=>Ga:=by
 refine A2 (fun r h=>?_) (fun r h=>?_)
 ·obtain⟨n,hn⟩:=eE.1 h
  cases n with
  |zero=>simp[ye]at hn
  |succ n=>simp only[ye]at hn;exact hn
 ·exact eE.2 ⟨1,by simp only[ye];exact h⟩
theorem q3k {P}(dS:qw P p){k args v ow}(h:jy p (X p) k args=I (v,ow))(hb:zr 0 args=Eh):IsoCall P k args v ow:=by
 obtain⟨n,hn⟩:=Ow h
 exact q7s dS hn hb
end
inductive jl where
 |code (c:qe)
 |seq (a b:jl)
 |cond (c:qp) (a b:jl)
 |block (id:Nat) (b:jl)
 |loop (b:jl)
 |AE (s:Nat) (c:jl)
 |shut (s sz:Nat) (c:jl)
def jl.erase:jl→qe
 | .code c=>c
 | .seq a b=>.seq a.erase b.erase
 | .cond c a b=>.cond c a.erase b.erase
 | .block id b=>.block id b.erase
 | .loop b=>.loop b.erase
 | .AE _ c=>c.erase
 | .shut _ _ c=>c.erase
def VH (P:Program)(w0:World)(K:Nat→Nat→Option Value)(nt:Nat)(st:qg)(a:Act)(w:World):Prop:=
 a.tmps.size=nt∧∃C' ω',Marks C' w0.heap.size a.defers∧av P C' ω' w0 (.bL K) st.heap w∧ak C' ω' w w0.heap.size st.env a.tmps
theorem VH.gc {P w0 K nt n st a w}(h:VH P w0 K nt st a w):VH P w0 K nt (Abs.gc n st) a w:=by
 obtain⟨h1,C',ω',h2,h3,h4⟩:=h
 unfold Abs.gc
 cases hb:Gy st.heap.length n with
 |true=>exact⟨h1,C',ω',h2,h3,h4⟩
 |false=>
  simp only[cond_false]
  cases lH:(mK n st.env&&ko n (st.heap.take n))with
  |false=>exact⟨h1,C',ω',h2,h3,h4⟩
  |true=>
   simp only[cT]
   simp only[Ep]at lH
   have hn:n≤st.heap.length:=by
    rcases Nat.lt_or_ge n st.heap.length with h|h
    ·omega
    ·rw[Nat.ble_eq_true_of_le h]at hb;cases hb
   exact⟨h1,C'.cut n,ω',⟨h2.choose,h2.choose_spec.1,h2.choose_spec.2.1,h2.choose_spec.2.2⟩,h3.gc hn lH.2 (fun b r h=>by cases h),h4.cut lH.1⟩
section
variable {P:Program}
theorem Tabs.table {w}(h:Tabs P w){g}(hg:P.globalNamed nM=I g):Lib.TabIs P w nM .u64 Lib.pow10Tab:=(h g (.inl hg)).2.1 hg
theorem Tabs.length {w}(h:Tabs P w){g}(hg:P.globalNamed xy=I g):∃m,w.cell? ⟨g,0,Ga⟩=I (.int .i64 m):=(h g (.inr (.inl hg))).2.2.1 hg
theorem HI {k args v}(h:∀(K:Nat→Nat→Option Value) (w:World) (vs:List Value),Tabs P w→(∀r o u,K r o=I u→w.cell? ⟨r,o,Ga⟩=I u)→aK (.bL K) args vs →
  ∃u,bG (.bL K) v u∧Calls P k ⟨vs⟩ w fun e w'=>e=.returned u∧Ext w w'):IsoCall P k args v Ev:=by
 intro K w vs ht h1 h2 hr
 obtain⟨u,hu,hc⟩:=h K w vs ht h1 hr
 refine callsIn_wide.2 (hc.mono ?_)
 rintro e w' ⟨rfl,hx⟩
 exact⟨u,K,rfl,hx,fun _ _ _ h=>h,fun _ _ _=>rfl,fun r o x hk=>hx.cell (h1 r o x hk),h2,hu,fun h=>by cases h⟩
theorem q7m {C r}:∀ {xs:List qa} {us:List Value} {o:Nat},aK C xs us→(∀x∈xs,x.flat=[x])→(∀(j:Nat) u,us[j]?=I u→C.K r (o+j)=I u)→bg C r 1 xs o
 | [],_,o,_,_,_=>.fj _ _ _
 |x::xs,us,o,h,hf,hk=>by
  cases h with
  |cons _ _ u us hx hr=>
   have Eo:=hf x (Gn ..)
   refine .cY _ _ _ _ _ (by rw[Eo];rfl) ?_ (q7m hr (fun y hy=>hf y (Gm _ hy)) fun j u hj=>?_)
   ·rw[Eo]
    exact .df _ _ _ _ u (by have:=hk 0 u rfl;simpa using this) hx (.gJ _ _)
   ·have:=hk (j+1) u (by simpa using hj)
    rw[show o+1+j=o+(j+1) by omega]
    exact this
theorem jfl {k args xs us}{t:TypeId}(hf:∀x∈xs,x.flat=[x])(gw:∀K,aK (.bL K) xs us)(h1u:∀u∈us,u.oneCell'=Eh)
  (h:∀(K:Nat→Nat→Option Value) (w:World) (vs:List Value),Tabs P w→(∀r o u,K r o=I u→w.cell? ⟨r,o,Ga⟩=I u)→aK (.bL K) args vs →
  Calls P k ⟨vs⟩ w fun e w'=>e=.returned (.slice (I ⟨w.heap.size,0,Ga⟩) xs.length xs.length)∧w'=w.alloc (.cells us.toArray t)):IsoCall P k args (.list Ev 1 xs) Ev:=by
 intro K w vs ht h1 h2 hr
 refine callsIn_wide.2 ((h K w vs ht h1 hr).mono ?_)
 rintro e w' ⟨rfl,rfl⟩
 have hx:Ext w (w.alloc (.cells us.toArray t)):=Ext.alloc w _ (fun c t fr h=>by cases h;rfl)
 have Hf:∀o u,K w.heap.size o=I u→False:=fun o u hk=>by
  have:=h1 _ _ _ hk
  simp only[World.cell?,Array.getElem?_eq_none (Nat.le_refl _)]at this
  cases this
 refine⟨_,fun r o=>if r=w.heap.size then us[o]? else K r o,rfl,hx,?_,?_,?_,?_,?_,fun h=>by cases h⟩
 ·intro r o x hk
  have bu:r≠w.heap.size:=fun e=>Hf o x (e▸hk)
  simp only[if_neg bu];exact hk
 ·intro r o bh
  have bu:r≠w.heap.size:=by omega
  simp only[if_neg bu]
 ·intro r o x hk
  simp only[]at hk
  split at hk
  ·next hr=>
   subst hr
   have hg:(w.alloc (.cells us.toArray t)).heap[w.heap.size]?=I (.cells us.toArray t):=by rw[vQ,if_pos rfl]
   simp only[World.cell?]
   rw[hg]
   simpa using hk
  ·exact hx.cell (h1 r o x hk)
 ·intro r o x hk
  simp only[]at hk
  split at hk
  ·exact h1u x (Gi hk)
  ·exact h2 r o x hk
 ·refine .list _ _ _ _ _ (Nat.le_refl _) (q7m (gw _) hf fun j u hj=>?_)
  show(if w.heap.size=w.heap.size then us[0+j]? else K w.heap.size (0+j))=I u
  rw[if_pos rfl,Nat.zero_add];exact hj
theorem IsoCall.shr {k args v ow}(h:IsoCall P k args v ow)(hb:zr 0 args=Eh)(hp:l5 v=Eh)(dS:za):AA P k args dS v Ev dS:=by
 intro C ω w vs hr m
 have jL:aK (.bL C.K) args vs:=qh.shift (C:=C) (C':=.bL C.K) 0 (fun _ _ _ h=>h) (fun b r bh=>by omega) hr hb
 refine CallsIn.mono (h C.K w vs m.tabs m.know m.cP jL) ?_
 rintro e w' ⟨u,K',rfl,q1,q2,q3,q4,q5,q6,_⟩
 refine⟨u,{ C with K:=K' },ω,rfl,⟨q2,fun _ _ h=>h,rfl,fun _ h=>h,fun _ h=>h⟩,m.bL q1 q2 q3 q4 q5,?_,fun h=>by cases h⟩
 exact qh.shift (C:=.bL K') (C':={ C with K:=K' }) 0 (fun _ _ _ h=>h) (fun b r bh=>by omega) q6 hp
end
open Go
def EJ:List UInt8→List UInt8→Bool
 | [],[]=>Eh
 |a::l,b::m=>bif Gk a.toNat b.toNat then EJ l m else Ev
 |_,_=>Ev
theorem qq8:∀ {l m:List UInt8},EJ l m=Eh→l=m
 | [],[],_=>rfl
 | [],_::_,h=>by simp[EJ]at h
 |_::_,[],h=>by simp[EJ]at h
 |a::l,b::m,h=>by
  simp only[EJ,Eu]at h
  split at h
  ·next hb=>rw[UInt8.toNat_inj.1 (Ek hb),qq8 h]
  ·exact absurd h (by simp)
def Ox:Int→Int→Bool
 | .ofNat a,.ofNat b=>Gk a b
 | .negSucc a,.negSucc b=>Gk a b
 |_,_=>Ev
theorem q64:∀ {a b:Int},Ox a b=Eh→a=b
 | .ofNat _,.ofNat _,h=>by rw[Ek h]
 | .negSucc _,.negSucc _,h=>by rw[Ek h]
 | .ofNat _,.negSucc _,h=>by simp[Ox]at h
 | .negSucc _,.ofNat _,h=>by simp[Ox]at h
mutual
def iN:qa→qa→Bool
 | .bool a,.bool b=>a == b
 | .int k a,.int k' b=>bif decide (k=k')then Ox a b else Ev
 | .str a,.str b=>EJ a b
 | .list a n xs,.list b m ys=>bif a == b then bif Gk n m then uY xs ys else Ev else Ev
 | .agg xs,.agg ys=>uY xs ys
 | .ay xs,.ay ys=>uY xs ys
 |_,_=>Ev
def uY:List qa→List qa→Bool
 | [],[]=>Eh
 |a::l,b::m=>bif iN a b then uY l m else Ev
 |_,_=>Ev
end
mutual
theorem q0r:∀ {a b:qa},iN a b=Eh→a=b:=by
 intro a b h
 match a,b with
 | .bool _,.bool _=>simp only[iN,beq_iff_eq]at h;rw[h]
 | .int k a,.int k' b=>
  simp only[iN,Eu,decide_eq_true_eq]at h
  split at h
  ·next hk=>rw[hk,q64 h]
  ·exact absurd h (by simp)
 | .str _,.str _=>simp only[iN]at h;rw[qq8 h]
 | .list a n xs,.list b m ys=>
  simp only[iN,Eu,beq_iff_eq]at h
  split at h
  ·next h1=>
   split at h
   ·next h2=>rw[h1,Ek h2,EK h]
   ·exact absurd h (by simp)
  ·exact absurd h (by simp)
 | .agg _,.agg _=>simp only[iN]at h;rw[EK h]
 | .ay _,.ay _=>simp only[iN]at h;rw[EK h]
 | .bool _,.int .. | .bool _,.str _ | .bool _,.list .. | .bool _,.agg _ | .bool _,.ay _=>simp[iN]at h
 | .int ..,.bool _ | .int ..,.str _ | .int ..,.list .. | .int ..,.agg _ | .int ..,.ay _=>simp[iN]at h
 | .str _,.bool _ | .str _,.int .. | .str _,.list .. | .str _,.agg _ | .str _,.ay _=>simp[iN]at h
 | .list ..,.bool _ | .list ..,.int .. | .list ..,.str _ | .list ..,.agg _ | .list ..,.ay _=>simp[iN]at h
 | .agg _,.bool _ | .agg _,.int .. | .agg _,.str _ | .agg _,.list .. | .agg _,.ay _=>simp[iN]at h
 | .ay _,.bool _ | .ay _,.int .. | .ay _,.str _ | .ay _,.list .. | .ay _,.agg _=>simp[iN]at h
 | .ms ..,_ | .ptr ..,_ | .ah _,_ | .cE _,_ | .bN,_ | .map _,_ | .bM,_ | .fn ..,_ | .bX,_ | .undef,_ | .any,_ | .au ..,_ | .dl ..,_=>simp[iN]at h
 | .bool _,.ms .. | .bool _,.ptr .. | .bool _,.ah _ | .bool _,.cE _ | .bool _,.bN | .bool _,.map _ | .bool _,.bM | .bool _,.fn .. | .bool _,.bX | .bool _,.undef | .bool _,.au .. | .bool _,.dl ..=>simp[iN]at h
 | .int ..,.ms .. | .int ..,.ptr .. | .int ..,.ah _ | .int ..,.cE _ | .int ..,.bN | .int ..,.map _ | .int ..,.bM | .int ..,.fn .. | .int ..,.bX | .int ..,.undef | .int ..,.au .. | .int ..,.dl ..=>simp[iN]at h
 | .str ..,.ms .. | .str ..,.ptr .. | .str ..,.ah _ | .str ..,.cE _ | .str ..,.bN | .str ..,.map _ | .str ..,.bM | .str ..,.fn .. | .str ..,.bX | .str ..,.undef | .str ..,.au .. | .str ..,.dl ..=>simp[iN]at h
 | .list ..,.ms .. | .list ..,.ptr .. | .list ..,.ah _ | .list ..,.cE _ | .list ..,.bN | .list ..,.map _ | .list ..,.bM | .list ..,.fn .. | .list ..,.bX | .list ..,.undef | .list ..,.au .. | .list ..,.dl ..=>simp[iN]at h
 | .agg ..,.ms .. | .agg ..,.ptr .. | .agg ..,.ah _ | .agg ..,.cE _ | .agg ..,.bN | .agg ..,.map _ | .agg ..,.bM | .agg ..,.fn .. | .agg ..,.bX | .agg ..,.undef | .agg ..,.au .. | .agg ..,.dl ..=>simp[iN]at h
 | .ay ..,.ms .. | .ay ..,.ptr .. | .ay ..,.ah _ | .ay ..,.cE _ | .ay ..,.bN | .ay ..,.map _ | .ay ..,.bM | .ay ..,.fn .. | .ay ..,.bX | .ay ..,.undef | .ay ..,.au .. | .ay ..,.dl ..=>simp[iN]at h
theorem EK:∀ {l m:List qa},uY l m=Eh→l=m:=by
 intro l m h
 match l,m with
 | [],[]=>rfl
 | [],_::_=>simp[uY]at h
 |_::_,[]=>simp[uY]at h
 |a::l,b::m=>
  simp only[uY,Eu]at h
  split at h
  ·next h1=>rw[q0r h1,EK h]
  ·exact absurd h (by simp)
end
abbrev Row:=List qa×qa×Bool
def zV (args:List qa):List Row→Option (qa×Bool)
 | []=>Ga
 |r::l=>bif uY r.1 args then I r.2 else zV args l
theorem Ns {args x}:∀ {l:List Row},zV args l=I x→(args,x)∈l
 | [],h=>by simp[zV]at h
 |r::l,h=>by
  simp only[zV,Eu]at h
  split at h
  ·next hb=>
   simp only[I.injEq]at h
   rw[←EK hb,←h]
   exact Gn ..
  ·exact Gm _ (Ns h)
def q5c (tab:Nat→Option (List Row)):Ea:=fun k=>(tab k).map fun l args=>zV args l
def Nr (P:Program)(tab:Nat→Option (List Row)):Prop:=
 ∀k l,tab k=I l→∀r∈l,IsoCall P k r.1 r.2.1 r.2.2
def xl:List (Nat×List Row)→Nat→Option (List Row)
 | [],_=>Ga
 |(k,l)::t,n=>bif Gk k n then I l else xl t n
def VI (P:Program)(k:Nat):List Row→Prop
 | []=>True
 |r::l=>IsoCall P k r.1 r.2.1 r.2.2∧VI P k l
def jel (P:Program):List (Nat×List Row)→Prop
 | []=>True
 |(k,l)::t=>VI P k l∧jel P t
theorem q3x {P k}:∀ {l:List Row},VI P k l→∀r∈l,IsoCall P k r.1 r.2.1 r.2.2
 |r::l,h,x,hx=>by
  cases hx with
  |head=>exact h.1
  |tail _ hx=>exact q3x h.2 x hx
theorem TB {P}:∀ {t:List (Nat×List Row)},jel P t→Nr P (xl t)
 |(j,m)::t,h,k,l,hk=>by
  simp only[xl,Eu]at hk
  split at hk
  ·next hb=>
   rw[Ek hb]at h
   simp only[I.injEq]at hk
   subst hk
   exact q3x h.1
  ·exact TB h.2 k l hk
theorem j5g {P:Program}{t:ja}{tab M}(h:qw P (t.prog (fun _=>Ga) M))(ht:Nr P tab)(he:∀k l,tab k=I l→Enters P k):qw P (t.prog (q5c tab) M) where
 fn:=h.fn
 gF:=by
  intro k f hf
  simp only[ja.prog,q5c,Option.map_eq_some_iff]at hf
  obtain⟨l,hl,rfl⟩:=hf
  refine⟨he k l hl,fun args v o hv _ _=>ht k l hl _ (Ns hv)⟩
 mixed:=h.mixed
 maps:=h.maps
theorem qwl {P p}(h:qw P p){n k b ow h1 es}(hr:ze p (hZ p n) k [] []=I (.map b,ow,h1))(hb:h1[b]?=I (.map es))(he:pX 0 es=Eh):Enters P k∧UL P k es:=
 q8q h (cg.Hs (Oi h n).1) (by rw[←Oo];exact hr) hb he
theorem j9 {P p}(h:qw P p){n k args v o}(hr:jy p (hZ p n) k args=some (v,o))(hb:zr 0 args=true:=by rfl):IsoCall P k args v o:=
 q7s h (jb2 hr) hb
end Go.Abs
