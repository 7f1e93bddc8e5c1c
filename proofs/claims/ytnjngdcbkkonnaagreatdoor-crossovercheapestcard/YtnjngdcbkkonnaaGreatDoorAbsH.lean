/- The executor for the kernel's run. -/
import Derived.Test.YtnjngdcbkkonnaaGreatDoorAbsG
import Derived.WalkKit
import Derived.ProofKit
import Derived.OpenShut
import Derived.ShutString
import Derived.ChangeOld
import Derived.Below
import Derived.Carry
import Derived.KernelRfl
import Derived.CallsIn
set_option linter.unusedVariables false
set_option linter.unusedSimpArgs false
namespace Go.Abs
def k9 {α:Type} (n:Nat) (f:Nat→α):α:=match n with
 | 0=>f 0
 | m + 1=>f (Nat.succ m)
def qs4 {α:Type} (n:Int) (f:Int→α):α:=match n with
 | .ofNat a=>k9 a fun a=>f (.ofNat a)
 | .negSucc a=>k9 a fun a=>f (.negSucc a)
def qgs {α:Type} (b:Bool) (f:Bool→α):α:=match b with
 | true=>f true
 | false=>f false
def qw8 {α:Type} (k:IntKind) (f:IntKind→α):α:=match k with
 | .i8=>f .i8 | .i16=>f .i16 | .i32=>f .i32 | .i64=>f .i64 | .u8=>f .u8 | .u16=>f .u16 | .u32=>f .u32 | .u64=>f .u64
def qe4 {α:Type}:List UInt8→(List UInt8→α)→α
 | [],f=>f []
 | c::s,f=>qe4 s fun s=>f (c::s)
def qvm {α:Type} (g:Fn) (f:Fn→α):α:=match g with
 | .func k=>k9 k fun k=>f (.func k)
 | .yield k=>k9 k fun k=>f (.yield k)
 | g=>f g
mutual
def km {α:Type}:AVal→(AVal→α)→α
 | .bool b,f=>qgs b fun b=>f (.bool b)
 | .int k n,f=>qw8 k fun k=>qs4 n fun n=>f (.int k n)
 | .str s,f=>qe4 s fun s=>f (.str s)
 | .list b sz xs,f=>qgs b fun b=>k9 sz fun sz=>qfg xs fun xs=>f (.list b sz xs)
 | .ms b o l,f=>k9 b fun b=>k9 o fun o=>k9 l fun l=>f (.ms b o l)
 | .ptr b o,f=>k9 b fun b=>k9 o fun o=>f (.ptr b o)
 | .vptr v,f=>km v fun v=>f (.vptr v)
 | .nilptr,f=>f .nilptr
 | .map b,f=>k9 b fun b=>f (.map b)
 | .nilmap,f=>f .nilmap
 | .fn g a c,f=>qvm g fun g=>qfg a fun a=>qfg c fun c=>f (.fn g a c)
 | .nilfn,f=>f .nilfn
 | .agg cs,f=>qfg cs fun cs=>f (.agg cs)
 | .tup cs,f=>qfg cs fun cs=>f (.tup cs)
 | .undef,f=>f .undef
 | .any,f=>f .any
def qfg {α:Type}:List AVal→(List AVal→α)→α
 | [],f=>f []
 | x::xs,f=>km x fun x=>qfg xs fun xs=>f (x::xs)
end
def qj5 {α:Type}:Env→(Env→α)→α
 | [],f=>f []
 | (t,v,o)::e,f=>k9 t fun t=>km v fun v=>qgs o fun o=>qj5 e fun e=>f ((t,v,o)::e)
def qh6 {α:Type}:List (AVal × Bool)→(List (AVal × Bool)→α)→α
 | [],f=>f []
 | (v,o)::e,f=>km v fun v=>qgs o fun o=>qh6 e fun e=>f ((v,o)::e)
def qe2 {α:Type}:List (AVal × AVal)→(List (AVal × AVal)→α)→α
 | [],f=>f []
 | (k,v)::e,f=>km k fun k=>km v fun v=>qe2 e fun e=>f ((k,v)::e)
def qo1 {α:Type} (x:Option jb) (f:Option jb→α):α:=match x with
 | none=>f none
 | some .normal=>f (some .normal)
 | some (.exit id)=>k9 id fun id=>f (some (.exit id))
 | some .ret=>f (some .ret)
def qs1 {α:Type}:ABox→(ABox→α)→α
 | .hole,f=>f .hole
 | .cells cs,f=>qh6 cs fun cs=>f (.cells cs)
 | .map es,f=>qe2 es fun es=>f (.map es)
 | .iter s pos,f=>k9 pos fun pos=>f (.iter s pos)
 | .bld t e l,f=>qe4 l fun l=>f (.bld t e l)
 | .dead,f=>f .dead
 | .loop l,f=>qj5 l.env fun e=>qo1 l.pending fun x=>f (.loop ⟨e,l.params,l.assign,l.body,x⟩)
def qkc {α:Type}:qk→(qk→α)→α
 | [],f=>f []
 | b::h,f=>qs1 b fun b=>qkc h fun h=>f (b::h)
def qll {α:Type} (st:ASt) (f:ASt→α):α:=qj5 st.env fun e=>qkc st.heap fun h=>f ⟨e,h⟩
section
variable {α:Type}
theorem qat (n:Nat) (f:Nat→α):k9 n f=f n:=by cases n <;> rfl
theorem q1z (n:Int) (f:Int→α):qs4 n f=f n:=by cases n <;> simp [qs4,qat]
theorem qeu (n:Bool) (f:Bool→α):qgs n f=f n:=by cases n <;> rfl
theorem q0p (n:IntKind) (f:IntKind→α):qw8 n f=f n:=by cases n <;> rfl
theorem qhp:∀ (s:List UInt8) (f:List UInt8→α),qe4 s f=f s
 | [],_=>rfl
 | c::s,f=>by simp only [qe4]; rw [qhp s]
theorem q5e (g:Fn) (f:Fn→α):qvm g f=f g:=by cases g <;> simp [qvm,qat]
mutual
theorem qg6:∀ (v:AVal) (f:AVal→α),km v f=f v
 | .bool b,f=>by simp only [km,qeu]
 | .int k n,f=>by simp only [km,q0p,q1z]
 | .str s,f=>by simp only [km,qhp]
 | .list b sz xs,f=>by simp only [km,qeu,qat]; rw [qel xs]
 | .ms b o l,f=>by simp only [km,qat]
 | .ptr b o,f=>by simp only [km,qat]
 | .vptr v,f=>by simp only [km]; rw [qg6 v]
 | .nilptr,f=>by simp only [km]
 | .map b,f=>by simp only [km,qat]
 | .nilmap,f=>by simp only [km]
 | .fn g a c,f=>by simp only [km,q5e]; rw [qel a,qel c]
 | .nilfn,f=>by simp only [km]
 | .agg cs,f=>by simp only [km]; rw [qel cs]
 | .tup cs,f=>by simp only [km]; rw [qel cs]
 | .undef,f=>by simp only [km]
 | .any,f=>by simp only [km]
theorem qel:∀ (l:List AVal) (f:List AVal→α),qfg l f=f l
 | [],f=>by simp only [qfg]
 | x::xs,f=>by simp only [qfg]; rw [qg6 x,qel xs]
end
theorem qkx:∀ (e:Env) (f:Env→α),qj5 e f=f e
 | [],_=>rfl
 | (t,v,o)::e,f=>by simp only [qj5,qat,qg6,qeu]; rw [qkx e]
theorem qog:∀ (e:List (AVal × Bool)) (f:List (AVal × Bool)→α),qh6 e f=f e
 | [],_=>rfl
 | (v,o)::e,f=>by simp only [qh6,qg6,qeu]; rw [qog e]
theorem qka:∀ (e:List (AVal × AVal)) (f:List (AVal × AVal)→α),qe2 e f=f e
 | [],_=>rfl
 | (v,o)::e,f=>by simp only [qe2,qg6]; rw [qka e]
theorem qzq (x:Option jb) (f:Option jb→α):qo1 x f=f x:=by
 cases x with
 | none=>rfl
 | some x=>cases x <;> simp [qo1,qat]
theorem q16 (b:ABox) (f:ABox→α):qs1 b f=f b:=by
 cases b <;> simp [qs1,qog,qka,qat,qhp,qkx,qzq]
theorem qo2:∀ (h:qk) (f:qk→α),qkc h f=f h
 | [],_=>rfl
 | b::h,f=>by simp only [qkc,q16]; rw [qo2 h]
theorem qn0 (st:ASt) (f:ASt→α):qll st f=f st:=by simp only [qll,qkx,qo2]
end
def zo (p:jl):Nat→XC
 | 0,_,_=>none
 | n + 1,c,st=>match c with
  | .skip=>some (.normal,st)
  | .region na ops keep=>match qar p (zo p n) na ops keep st with
   | some (x,st')=>qll st' fun s=>some (x,s)
   | none=>none
  | .seq a b=>match zo p n a st with
   | some (.normal,st')=>zo p n b st'
   | r=>r
  | .cond c a b=>match qj st.env c with
   | some (.bool t)=>bif t then zo p n a st else zo p n b st
   | _=>none
  | .block id body=>match zo p n body st with
   | some (.exit id',st')=>bif Nat.beq id' id then some (.normal,st') else some (.exit id',st')
   | r=>r
  | .loop body=>match zo p n body st with
   | some (.normal,st')=>qll (gc st.heap.length st') fun s=>zo p n (.loop body) s
   | r=>r
  | .rangeFunc f params assign body=>match qbe p (zo p n) f params assign body st with
   | some (x,st')=>qll st' fun s=>some (x,s)
   | none=>none
  | .exit id=>some (.exit id,st)
  | .ret=>some (.ret,st)
  | .grow sz=>match look 0 st.env,look 1 st.env with
   | some (.list true _ _,_),some (.int .i64 (.ofNat m),_)=>bif Nat.blt 0 m && Nat.ble m 1073741824 then some (.normal,{ st with env:=[(0,.list false sz [],true)] }) else none
   | _,_=>none
  | .stuck=>none
theorem qqc (p:jl):∀ n,zo p n=jh p n
 | 0=>by funext c st; rfl
 | n + 1=>by
  have ih:=qqc p n
  funext c st
  cases c with
  | region na ops keep=>
   simp only [zo,jh,ih]
   cases qar p (jh p n) na ops keep st with
   | none=>rfl
   | some r=>simp only [qn0]
  | rangeFunc f ps a b=>
   simp only [zo,jh,ih]
   cases qbe p (jh p n) f ps a b st with
   | none=>rfl
   | some r=>simp only [qn0]
  | loop body=>
   simp only [zo,jh,ih,qn0]
   rfl
  | _=>simp only [zo,jh,ih] <;> rfl
inductive FTree where
 | leaf (k:Nat) (f:qz)
 | node (m:Nat) (a b:FTree)
def FTree.find:FTree→Nat→Option qz
 | .leaf k f,n=>bif Nat.beq k n then some f else none
 | .node m a b,n=>bif Nat.blt n m then a.find n else b.find n
def FTree.All (Q:Nat→qz→Prop):FTree→Prop
 | .leaf k f=>Q k f
 | .node _ a b=>a.All Q∧b.All Q
theorem FTree.find_all {Q:Nat→qz→Prop}:∀ {t:FTree} {k:Nat} {f:qz},t.All Q→t.find k=some f→Q k f
 | .leaf j g,k,f,h,hf=>by
  simp only [FTree.find] at hf
  cases hb:Nat.beq j k with
  | false=>simp [hb] at hf
  | true=>
   have:=Nat.eq_of_beq_eq_true hb
   subst this
   simp only [hb,cond_true,Option.some.injEq] at hf
   subst hf; exact h
 | .node m a b,k,f,h,hf=>by
  simp only [FTree.find] at hf
  cases hb:Nat.blt k m with
  | true=>simp only [hb,cond_true] at hf; exact FTree.find_all h.1 hf
  | false=>simp only [hb,cond_false] at hf; exact FTree.find_all h.2 hf
def FTree.prog (t:FTree) (prims:qgj) (maps:q3l:=fun _=>none):jl:={ fns:=t.find,prims:=prims,maps:=maps }
theorem q7h {p:jl} {n k:Nat} {args:List AVal} {r:Option (AVal × Bool)} (h:qf p (zo p n) k args=r):qf p (jh p n) k args=r:=by
 rw [← qqc]; exact h
def Kw (w:World):Nat→Nat→Option Value:=fun r o=>(w.cell? ⟨r,o,none⟩).filter (·.oneCell')
theorem jpq {w:World} {r o:Nat} {v:Value} (h:w.cell? ⟨r,o,none⟩=some v) (h1:v.oneCell'=true):Kw w r o=some v:=by simp [Kw,h,h1]
theorem q2p {w:World} {r o:Nat} {v:Value} (h:Kw w r o=some v):w.cell? ⟨r,o,none⟩=some v∧v.oneCell'=true:=by
 unfold Kw at h; rw [Option.filter_eq_some_iff] at h; exact h
def qee (P:Program) (t:TypeId):Bool:=match P.underlying t with
 | some (.struct _)=>true
 | some (.array _ _)=>true
 | _=>false
def qyb (P:Program):Nat→List Field→Bool
 | _,[]=>true
 | o,f::fs=>f.offset == o && qyb P (o + P.cellsOf f.type) fs
def qkr (P:Program) (fs:List Field):Nat:=(fs.map fun f=>P.cellsOf f.type).sum
def qc6 (P:Program):Nat→TypeId→Bool
 | 0,_=>false
 | n + 1,t=>match P.underlying t with
  | some .bool=>P.cellsOf t == 1
  | some (.int _)=>P.cellsOf t == 1
  | some .string=>P.cellsOf t == 1
  | some (.slice e)=>P.cellsOf t == 1 && qc6 P n e && decide (0 < P.cellsOf e)
  | some (.struct fs)=>qyb P 0 fs.toList && qkr P fs.toList == P.cellsOf t && fs.toList.all fun f=>qc6 P n f.type
  | some (.array k e)=>P.cellsOf t == k * P.cellsOf e && qc6 P n e
  | _=>false
def qls (ty:TypeId→List AVal→Prop):List Field→List AVal→Prop
 | [],cs=>cs=[]
 | f::fs,cs=>∃ ys zs,cs=ys++zs∧ty f.type ys∧qls ty fs zs
def qi7 (ty:List AVal→Prop):Nat→List AVal→Prop
 | 0,cs=>cs=[]
 | k + 1,cs=>∃ ys zs,cs=ys++zs∧ty ys∧qi7 ty k zs
def yg (P:Program):Nat→TypeId→List AVal→Prop
 | 0,_,_=>False
 | n + 1,t,cs=>match P.underlying t with
  | some .bool=>∃ b,cs=[.bool b]
  | some (.int k)=>∃ m,cs=[.int k m]∧(Lit.int k m).wf=true
  | some .string=>∃ s,cs=[.str s]∧s.length≤maxLen
  | some (.slice e)=>cs=[.list true 0 []]∨∃ xs,cs=[.list false (P.cellsOf e) xs]∧xs.length≤maxLen∧∀ y∈xs,yg P n e y.flat∧y.isAgg=qee P e
  | some (.struct fs)=>qls (yg P n) fs.toList cs
  | some (.array k e)=>qi7 (yg P n e) k cs
  | _=>False
section
variable {P:Program} {H:Type} {enc:TypeId × Value→H} {w:World}
theorem qwr:∀ (fs:List Field) (o:Nat) (vs:List Value),qyb P o fs=true→vs.length=o + qkr P fs→vs.drop o=(fs.map fun f=>(vs.drop f.offset).take (P.cellsOf f.type)).flatten
 | [],o,vs,_,hl=>by simp [qkr] at hl; simp [hl]
 | f::fs,o,vs,ht,hl=>by
  simp only [qyb,Bool.and_eq_true,beq_iff_eq] at ht
  obtain ⟨rfl,ht⟩:=ht
  have ih:=qwr fs _ vs ht (by simp [qkr] at hl ⊢; omega)
  rw [List.map_cons,List.flatten_cons,← ih,← List.drop_drop,List.take_append_drop]
theorem qiv {α β:Type} {f:α→Option β}:∀ {l:List α} {ys:List β},l.mapM f=some ys→ys.length=l.length∧∀ (i:Nat) (x:α),l[i]?=some x→∃ y,ys[i]?=some y∧f x=some y
 | [],ys,h=>by simp at h; subst h; simp
 | a::l,ys,h=>by
  rw [List.mapM_cons] at h
  cases hf:f a with
  | none=>simp [hf] at h
  | some y=>
   cases hr:l.mapM f with
   | none=>simp [hf,hr] at h
   | some zs=>
    simp [hf,hr] at h
    subst h
    obtain ⟨h1,h2⟩:=qiv hr
    refine ⟨by simp [h1],fun i x hx=>?_⟩
    cases i with
    | zero=>simp at hx; subst hx; exact ⟨y,rfl,hf⟩
    | succ i=>simp at hx; obtain ⟨z,h3,h4⟩:=h2 i x hx; exact ⟨z,by simpa using h3,h4⟩
theorem q0w {base n:Nat} {a:Addr} {vs:List Value} (h:w.cells? base a n=some vs):vs.length=n∧∀ (i:Nat) (v:Value),vs[i]?=some v→w.cell? (a.add i)=some v:=by
 unfold World.cells? at h
 split at h
 ·obtain ⟨h1,h2⟩:=qiv h
  rw [List.length_range] at h1
  refine ⟨h1,fun i v hv=>?_⟩
  have hi:i < n:=by rw [← h1]; exact (List.getElem?_eq_some_iff.1 hv).1
  obtain ⟨y,h3,h4⟩:=h2 i i (by rw [List.getElem?_range hi])
  rw [hv] at h3; cases h3; exact h4
 ·cases h
theorem qu4 {ty:TypeId→List AVal→Prop}:∀ (fs:List Field) (vss:List (List Value)),vss.length=fs.length→(∀ (i:Nat) (f:Field) (vs:List Value),fs[i]?=some f→vss[i]?=some vs→∃ cs,RepL (.iso (Kw w)) cs vs∧ty f.type cs)→∃ cs,RepL (.iso (Kw w)) cs vss.flatten∧qls ty fs cs
 | [],vss,hl,_=>by
  have:vss=[]:=List.length_eq_zero_iff.1 (by simpa using hl)
  subst this
  exact ⟨[],.nil,rfl⟩
 | f::fs,[],hl,_=>by simp at hl
 | f::fs,vs::vss,hl,h=>by
  obtain ⟨ys,h1,h2⟩:=h 0 f vs rfl rfl
  obtain ⟨zs,h3,h4⟩:=qu4 fs vss (by simpa using hl) (fun i f' vs' hf hv=>h (i + 1) f' vs' (by simpa using hf) (by simpa using hv))
  exact ⟨ys++zs,RepL.append h1 h3,ys,zs,rfl,h2,h4⟩
theorem qr7 {ty:List AVal→Prop}:∀ (k:Nat) (vss:List (List Value)),vss.length=k→(∀ (i:Nat) vs,vss[i]?=some vs→∃ cs,RepL (.iso (Kw w)) cs vs∧ty cs)→∃ cs,RepL (.iso (Kw w)) cs vss.flatten∧qi7 ty k cs
 | 0,vss,hl,_=>by
  have:vss=[]:=List.length_eq_zero_iff.1 hl
  subst this
  exact ⟨[],.nil,rfl⟩
 | k + 1,[],hl,_=>by simp at hl
 | k + 1,vs::vss,hl,h=>by
  obtain ⟨ys,h1,h2⟩:=h 0 vs rfl
  obtain ⟨zs,h3,h4⟩:=qr7 k vss (by simpa using hl) (fun i vs' hv=>h (i + 1) vs' (by simpa using hv))
  exact ⟨ys++zs,RepL.append h1 h3,ys,zs,rfl,h2,h4⟩
theorem q26 (n:Nat):∀ (k:Nat) (vs:List Value),vs.length=k * n→vs=((List.range k).map fun i=>(vs.drop (i * n)).take n).flatten
 | 0,vs,hl=>by
  have:vs=[]:=List.length_eq_zero_iff.1 (by simpa using hl)
  simp [this]
 | k + 1,vs,hl=>by
  have ih:=q26 n k (vs.drop n) (by simp [hl,Nat.succ_mul])
  rw [List.range_succ_eq_map,List.map_cons,List.flatten_cons,List.map_map]
  have e:(List.range k).map ((fun i=>(vs.drop (i * n)).take n) ∘ Nat.succ)=(List.range k).map fun i=>((vs.drop n).drop (i * n)).take n:=by
   apply List.map_congr_left
   intro i _
   simp only [Function.comp,List.drop_drop]
   congr 2
   rw [Nat.succ_mul]; omega
  rw [e,← ih]
  simp
theorem qho:∀ {n:Nat} {t:TypeId} {cs:List AVal},yg P n t cs→∀ x∈cs,qo x=true
 | 0,_,_,h=>h.elim
 | n + 1,t,cs,h=>by
  have fsc:∀ (fs:List Field) (cs:List AVal),qls (yg P n) fs cs→∀ x∈cs,qo x=true:=by
   intro fs
   induction fs with
   | nil=>intro cs h; simp only [qls] at h; subst h; simp
   | cons f fs ih=>
    rintro cs ⟨ys,zs,rfl,h1,h2⟩ x hx
    rcases List.mem_append.1 hx with hx | hx
    ·exact qho h1 x hx
    ·exact ih _ h2 x hx
  have rsc:∀ (e:TypeId) (k:Nat) (cs:List AVal),qi7 (yg P n e) k cs→∀ x∈cs,qo x=true:=by
   intro e k
   induction k with
   | zero=>intro cs h; simp only [qi7] at h; subst h; simp
   | succ k ih=>
    rintro cs ⟨ys,zs,rfl,h1,h2⟩ x hx
    rcases List.mem_append.1 hx with hx | hx
    ·exact qho h1 x hx
    ·exact ih _ h2 x hx
  simp only [yg] at h
  split at h
  ·obtain ⟨b,rfl⟩:=h; simp [qo]
  ·obtain ⟨m,rfl,_⟩:=h; simp [qo]
  ·obtain ⟨s,rfl,_⟩:=h; simp [qo]
  ·rcases h with rfl | ⟨xs,rfl,_⟩ <;> simp [qo]
  ·exact fsc _ _ h
  ·exact rsc _ _ _ h
  ·exact h.elim
theorem qtn {n:Nat} {t:TypeId} {cs:List AVal} (h:yg P n t cs) (ha:qee P t=false):∃ x,cs=[x]∧x.isAgg=false:=by
 cases n with
 | zero=>exact h.elim
 | succ n=>
  unfold qee at ha
  simp only [yg] at h
  split at h
  ·obtain ⟨b,rfl⟩:=h; exact ⟨_,rfl,rfl⟩
  ·obtain ⟨m,rfl,_⟩:=h; exact ⟨_,rfl,rfl⟩
  ·obtain ⟨s,rfl,_⟩:=h; exact ⟨_,rfl,rfl⟩
  ·rcases h with rfl | ⟨xs,rfl,_⟩ <;> exact ⟨_,rfl,rfl⟩
  ·rename_i hu; rw [hu] at ha; cases ha
  ·rename_i hu; rw [hu] at ha; cases ha
  ·exact h.elim
theorem read {held:Bool}:∀ (n fuel:Nat) (t:TypeId) (vs:List Value) (d:DataW H) (ps:List MemPlace),qc6 P n t=true→DataW.trod enc P w 0 (fun _=>true) held fuel t vs=some (d,ps) →
  ∃ cs,RepL (.iso (Kw w)) cs vs∧yg P n t cs∧cs.length=P.cellsOf t
 | 0,_,_,_,_,_,hp,_=>by simp [qc6] at hp
 | n + 1,0,_,_,_,_,_,h=>by simp [DataW.trod] at h
 | n + 1,fuel + 1,t,vs,d,ps,hp,h=>by
  simp only [qc6] at hp
  simp only [yg]
  simp only [DataW.trod] at h
  cases hu:P.underlying t with
  | none=>simp [hu] at hp
  | some td=>
   rw [hu] at h hp
   cases td with
   | bool=>
    simp only [beq_iff_eq] at hp
    split at h <;> first | cases ‹some _=some _› | skip
    all_goals first | (rename_i heq; cases heq; done) | skip
    ·exact ⟨_,.cons _ _ _ _ (.bool _) .nil,⟨_,rfl⟩,by simp [hp]⟩
    ·cases h
   | int k=>
    simp only [beq_iff_eq] at hp
    split at h <;> first | cases ‹some _=some _› | skip
    all_goals first | (rename_i heq; cases heq; done) | skip
    ·split at h
     ·rename_i hk
      obtain ⟨rfl,hk2⟩:=hk
      exact ⟨_,.cons _ _ _ _ (.int _ _) .nil,⟨_,rfl,hk2⟩,by simp [hp]⟩
     ·cases h
    ·cases h
   | string=>
    simp only [beq_iff_eq] at hp
    split at h <;> first | cases ‹some _=some _› | skip
    all_goals first | (rename_i heq; cases heq; done) | skip
    ·rename_i s
     split at h
     ·rename_i hk
      refine ⟨[.str s.data.toList],.cons _ _ _ _ (RepI.str s.data.toList) .nil,⟨_,rfl,?_⟩,by simp [hp]⟩
      simpa using hk
     ·cases h
    ·cases h
   | slice e=>
    simp only [Bool.and_eq_true,beq_iff_eq,decide_eq_true_eq] at hp
    obtain ⟨⟨hp1,hp2⟩,hp3⟩:=hp
    split at h <;> first | cases ‹some _=some _› | skip
    all_goals first | (rename_i heq; cases heq; done) | skip
    ·exact ⟨_,.cons _ _ _ _ (.lnil 0) .nil,.inl rfl,by simp [hp1]⟩
    ·rename_i a len cap
     split at h
     ·rename_i hk
      obtain ⟨_,hk2,hk3⟩:=hk
      cases he:(List.range len).mapM (fun i=>(w.cells? 0 (a.add (i * P.cellsOf e)) (P.cellsOf e)).bind (DataW.trod enc P w 0 (fun _=>true) held fuel e)) with
      | none=>simp [he] at h
      | some elems=>
       simp only [he,Option.bind_some,if_true] at h
       cases hr:(List.range (cap - len)).mapM (fun j=>(w.cells? 0 (a.add ((len + j) * P.cellsOf e)) (P.cellsOf e)).bind (DataW.trod enc P w 0 (fun _=>true) held fuel e)) with
       | none=>simp [hr] at h
       | some rest=>
        obtain ⟨he1,he2⟩:=qiv he
        obtain ⟨hr1,hr2⟩:=qiv hr
        rw [List.length_range] at he1 hr1
        have hspot:0 < cap→a.spot=none:=fun hc=>by
         have hz0:∃ z,(w.cells? 0 (a.add (0 * P.cellsOf e)) (P.cellsOf e)).bind (DataW.trod enc P w 0 (fun _=>true) held fuel e)=some z:=by
          by_cases hl:0 < len
          ·obtain ⟨y,_,hy⟩:=he2 0 0 (by rw [List.getElem?_range hl]); exact ⟨y,hy⟩
          ·obtain ⟨y,_,hy⟩:=hr2 0 0 (by rw [List.getElem?_range (by omega)])
           have hl0:len=0:=by omega
           subst hl0
           exact ⟨y,by simpa using hy⟩
         obtain ⟨z0,hz0⟩:=hz0
         cases hc0:w.cells? 0 (a.add (0 * P.cellsOf e)) (P.cellsOf e) with
         | none=>rw [hc0] at hz0; cases hz0
         | some us0=>
          obtain ⟨d1,d2⟩:=q0w hc0
          have hcc:=d2 0 _ (List.getElem?_eq_getElem (show 0 < us0.length by omega))
          have:=World.cell?_spot hcc
          simpa [Addr.add] using this
        by_cases hcap:0 < cap
        ·have hs0:=hspot hcap
         obtain ⟨r,o,sp⟩:=a
         simp only at hs0
         subst hs0
         have elem:∀ (i:Nat),i < len→∃ y:AVal,RepC (.iso (Kw w)) r y.flat (o + i * P.cellsOf e)∧y.flat.length=P.cellsOf e∧yg P n e y.flat∧y.isAgg=qee P e:=by
          intro i hi
          obtain ⟨z,_,hz⟩:=he2 i i (by rw [List.getElem?_range hi])
          cases hc:w.cells? 0 ((⟨r,o,none⟩:Addr).add (i * P.cellsOf e)) (P.cellsOf e) with
          | none=>simp [hc] at hz
          | some us=>
           simp only [hc,Option.bind_some] at hz
           obtain ⟨c1,c2⟩:=q0w hc
           obtain ⟨cs,k1,k2,k3⟩:=read n fuel e us z.1 z.2 hp2 hz
           have hone:=qb9 k1 (qho k2)
           have hcs:RepC (.iso (Kw w)) r cs (o + i * P.cellsOf e):=RepC.of_vals k1 fun j v hj=>by
            have h1:=c2 j v hj
            rw [add_lit,add_lit] at h1
            exact jpq h1 (hone v (List.mem_of_getElem? hj))
           cases hag:qee P e with
           | true=>exact ⟨.agg cs,hcs,k3,k2,rfl⟩
           | false=>
            obtain ⟨x,rfl,hx⟩:=qtn k2 hag
            have hf:x.flat=[x]:=qa8 hx
            exact ⟨x,by rw [hf]; exact hcs,by rw [hf]; exact k3,by rw [hf]; exact k2,hx⟩
         have rows:∀ (m:Nat) (q:Nat),q + m=len→∃ ys:List AVal,ys.length=m∧RepRow (.iso (Kw w)) r (P.cellsOf e) ys (o + q * P.cellsOf e)∧∀ y∈ys,yg P n e y.flat∧y.isAgg=qee P e:=by
          intro m
          induction m with
          | zero=>intro q _; exact ⟨[],rfl,.rnil _ _ _,by simp⟩
          | succ m ih=>
           intro q hq
           obtain ⟨ys,y1,y2,y3⟩:=ih (q + 1) (by omega)
           obtain ⟨y,z1,z2,z3⟩:=elem q (by omega)
           refine ⟨y::ys,by simp [y1],.rcons _ _ _ _ _ z2 z1 ?_,?_⟩
           ·rw [show o + q * P.cellsOf e + P.cellsOf e=o + (q + 1) * P.cellsOf e from by rw [Nat.succ_mul]; omega]; exact y2
           ·intro x hx
            rcases List.mem_cons.1 hx with rfl | hx
            ·exact z3
            ·exact y3 x hx
         obtain ⟨ys,y1,y2,y3⟩:=rows len 0 (by omega)
         rw [Nat.zero_mul,Nat.add_zero] at y2
         subst y1
         exact ⟨_,.cons _ _ _ _ (.list (P.cellsOf e) ys r o cap hk2 y2) .nil,.inr ⟨ys,rfl,by omega,y3⟩,by simp [hp1]⟩
        ·have hc0:cap=0:=by omega
         have hl0:len=0:=by omega
         subst hc0; subst hl0
         by_cases hsp:a.spot=none
         ·obtain ⟨r,o,sp⟩:=a
          simp only at hsp
          subst hsp
          exact ⟨_,.cons _ _ _ _ (.list (P.cellsOf e) [] r o 0 (by simp) (.rnil _ _ _)) .nil,.inr ⟨[],rfl,by simp,by simp⟩,by simp [hp1]⟩
         ·exact ⟨_,.cons _ _ _ _ (.lemp (P.cellsOf e) a hsp) .nil,.inr ⟨[],rfl,by simp,by simp⟩,by simp [hp1]⟩
     ·cases h
    ·cases h
   | struct fs=>
    simp only [Bool.and_eq_true,beq_iff_eq,List.all_eq_true] at hp
    obtain ⟨⟨hp1,hp2⟩,hp3⟩:=hp
    change (if vs.length=P.cellsOf t then (fs.toList.mapM fun f=>DataW.trod enc P w 0 (fun _=>true) held fuel f.type ((vs.drop f.offset).take (P.cellsOf f.type))).map fun xs=>(DataW.agg (xs.map (·.1)),xs.flatMap (·.2)) else none)=some (d,ps) at h
    ·split at h
     ·rename_i hl
      cases hm:fs.toList.mapM (fun f=>DataW.trod enc P w 0 (fun _=>true) held fuel f.type ((vs.drop f.offset).take (P.cellsOf f.type))) with
      | none=>simp [hm] at h
      | some zs=>
       obtain ⟨m1,m2⟩:=qiv hm
       have hcut:=qwr fs.toList 0 vs hp1 (by omega)
       obtain ⟨cs,k1,k2⟩:=qu4 (w:=w) (ty:=yg P n) fs.toList (fs.toList.map fun f=>(vs.drop f.offset).take (P.cellsOf f.type)) (by simp) (fun i f us hf hv=>by
        obtain ⟨z,_,hz⟩:=m2 i f hf
        have hus:us=(vs.drop f.offset).take (P.cellsOf f.type):=by
         rw [List.getElem?_map,hf] at hv
         simpa using hv.symm
        subst hus
        obtain ⟨cs,q1,q2,_⟩:=read n fuel f.type _ z.1 z.2 (hp3 f (List.mem_of_getElem? hf)) hz
        exact ⟨cs,q1,q2⟩)
       rw [← hcut] at k1
       exact ⟨cs,by simpa using k1,k2,by have:=k1.length; simp at this; omega⟩
     ·cases h
   | array k e=>
    simp only [Bool.and_eq_true,beq_iff_eq] at hp
    obtain ⟨hp1,hp2⟩:=hp
    change (if vs.length=P.cellsOf t then ((List.range k).mapM fun i=>DataW.trod enc P w 0 (fun _=>true) held fuel e ((vs.drop (i * P.cellsOf e)).take (P.cellsOf e))).map fun xs=>(DataW.agg (xs.map (·.1)),xs.flatMap (·.2)) else none)=some (d,ps) at h
    ·split at h
     ·rename_i hl
      cases hm:(List.range k).mapM (fun i=>DataW.trod enc P w 0 (fun _=>true) held fuel e ((vs.drop (i * P.cellsOf e)).take (P.cellsOf e))) with
      | none=>simp [hm] at h
      | some zs=>
       obtain ⟨m1,m2⟩:=qiv hm
       have hcut:=q26 (P.cellsOf e) k vs (by omega)
       obtain ⟨cs,k1,k2⟩:=qr7 (w:=w) (ty:=yg P n e) k ((List.range k).map fun i=>(vs.drop (i * P.cellsOf e)).take (P.cellsOf e)) (by simp) (fun i us hv=>by
        have hi:i < k:=by
         have:=(List.getElem?_eq_some_iff.1 hv).1
         simpa using this
        obtain ⟨z,_,hz⟩:=m2 i i (by rw [List.getElem?_range hi])
        have hus:us=(vs.drop (i * P.cellsOf e)).take (P.cellsOf e):=by
         rw [List.getElem?_map,List.getElem?_range hi] at hv
         simpa using hv.symm
        subst hus
        obtain ⟨cs,q1,q2,_⟩:=read n fuel e _ z.1 z.2 hp2 hz
        exact ⟨cs,q1,q2⟩)
       rw [← hcut] at k1
       exact ⟨cs,k1,k2,by have:=k1.length; omega⟩
     ·cases h
   | _=>simp at hp
end
open Go.ChangeShapes Go.WideShapes Go.ChangeAt Go.RowKit
section
variable {P:Program} {H:Type} {enc:TypeId × Value→H} {w:World}
def q53 (P:Program) (n:Nat) (t:TypeId) (x:AVal):Prop:=yg P n t x.flat∧x.isAgg=qee P t
def qn1 (P:Program) (n:Nat):List TypeId→List AVal→Prop
 | [],xs=>xs=[]
 | t::ts,xs=>∃ y ys,xs=y::ys∧q53 P n t y∧qn1 P n ts ys
theorem jb7 {n:Nat} {t:TypeId} {v:Value} {d:DataW H} {ps:List MemPlace} {base:Nat} (hp:qc6 P n t=true) (hv:Value.okWide P w .any base t v) (h:DataW.Trod enc P w 0 (fun _=>true) true t v d ps):∃ x,Rep (.iso (Kw w)) x v∧q53 P n t x:=by
 obtain ⟨fuel,hf⟩:=h
 obtain ⟨cs,k1,k2,k3⟩:=read n fuel t _ d ps hp hf
 cases hag:qee P t with
 | true=>
  have hvv:∃ cells,v=.agg cells:=by
   unfold qee at hag
   unfold Value.okWide at hv
   split at hag
   ·rename_i fs hu; rw [hu] at hv; obtain ⟨c,hc,_⟩:=hv; exact ⟨c,hc⟩
   ·rename_i a b hu; rw [hu] at hv; obtain ⟨c,hc,_⟩:=hv; exact ⟨c,hc⟩
   ·cases hag
  obtain ⟨cells,rfl⟩:=hvv
  exact ⟨.agg cs,.agg cs cells.toList k1,k2,hag.symm⟩
 | false=>
  obtain ⟨x,rfl,hx⟩:=qtn k2 hag
  have hvv:v.cells.toList=[v]:=by
   cases v with
   | agg c=>
    exfalso
    unfold Value.okWide at hv
    unfold qee at hag
    cases n with
    | zero=>simp [qc6] at hp
    | succ n=>
     simp only [qc6] at hp
     cases hu:P.underlying t with
     | none=>rw [hu] at hp; cases hp
     | some td=>rw [hu] at hp hv hag; cases td <;> first | (simp at hp; done) | (simp at hag; done) | (simp [Cell.okWide,hu,Cell.ok] at hv; done)
   | _=>rfl
  rw [hvv] at k1
  cases k1 with
  | cons _ _ _ _ h1 _=>exact ⟨x,h1,by rw [qa8 hx]; exact k2,by rw [hx,hag]⟩
theorem q29 {n:Nat}:∀ {ts:List TypeId} {vs:List Value} {ds:List (DataW H)} {ps:List MemPlace},ts.all (qc6 P n)=true→(∀ (j:Nat) t v,ts[j]?=some t→vs[j]?=some v→∃ base,Value.okWide P w .any base t v)→DataW.TrodAll enc P w 0 (fun _=>true) true ts vs ds ps →
  ds.length=ts.length∧∃ xs,RepL (.iso (Kw w)) xs vs∧qn1 P n ts xs
 | [],[],[],ps,_,_,_=>⟨rfl,[],.nil,rfl⟩
 | [],[],_::_,ps,_,_,h=>by simp [DataW.TrodAll] at h
 | [],_::_,_,ps,_,_,h=>by simp [DataW.TrodAll] at h
 | _::_,[],_,ps,_,_,h=>by simp [DataW.TrodAll] at h
 | _::_,_::_,[],ps,_,_,h=>by simp [DataW.TrodAll] at h
 | t::ts,v::vs,d::ds,ps,hp,hv,h=>by
  obtain ⟨p,q,h1,h2,_⟩:=h
  simp only [List.all_cons,Bool.and_eq_true] at hp
  obtain ⟨base,hb⟩:=hv 0 t v rfl rfl
  obtain ⟨x,k1,k2⟩:=jb7 hp.1 hb h1
  obtain ⟨hl,xs,k3,k4⟩:=q29 hp.2 (fun j t' v' ht hv'=>hv (j + 1) t' v' (by simpa using ht) (by simpa using hv')) h2
  exact ⟨by simp [hl],x::xs,.cons _ _ _ _ k1 k3,x,xs,rfl,k2,k4⟩
theorem Ext.frame {w':World} (h:Ext w w') (may:MemPlace→Prop):w.keptBut w' may:=by
 refine ⟨h.os,h.output,fun i hi=>?_⟩
 rw [h.same i hi]
 split <;> simp_all
theorem Ext.sameAt {w':World} (h:Ext w w') {p:MemPlace} (hp:p.block < w.heap.size):w.sameAt w' p:=by
 cases p with
 | cell b o=>exact World.cell?_of_block (w:=w) (h.same b hp)
 | map b=>exact h.same b hp
theorem qzp {w':World} (hx:Ext w w') (hl:laidOutB P=true):∀ {ts:List TypeId} {vs:List Value} {ds:List (DataW H)} {ps:List MemPlace},ts.all (fun t=>P.readableRec t && decide (t < P.types.size))=true→DataW.TrodAll enc P w 0 (fun _=>true) true ts vs ds ps →
  DataW.TrodAll enc P w' 0 (fun b=>decide (b < w.heap.size)) true ts vs ds ps
 | [],[],[],ps,_,h=>h
 | [],[],_::_,ps,_,h=>by simp [DataW.TrodAll] at h
 | [],_::_,_,ps,_,h=>by simp [DataW.TrodAll] at h
 | _::_,[],_,ps,_,h=>by simp [DataW.TrodAll] at h
 | _::_,_::_,[],ps,_,h=>by simp [DataW.TrodAll] at h
 | t::ts,v::vs,d::ds,ps,hr,h=>by
  obtain ⟨p,q,h1,h2,h3⟩:=h
  simp only [List.all_cons,Bool.and_eq_true,decide_eq_true_eq] at hr
  have hlt:∀ x∈p,x.block < w.heap.size:=by obtain ⟨m,hm⟩:=h1; exact DataW.trod_lt m _ _ _ hm
  exact ⟨p,q,WideElems.Trod_stays hl hr.1.1 hr.1.2 h1 (fun x hm=>hx.sameAt (hlt x hm)) (fun x hm=>by simpa using hlt x hm),qzp hx hl hr.2 h2,h3⟩
end
def XLe (f g:XC):Prop:=∀ c st r,f c st=some r→g c st=some r
section
variable {p:jl} {f g:XC}
theorem qxg (h:XLe f g) {af:qz} {args:List AVal} {hp:qk} {r:AVal × Bool × qk} (hr:qa5 f af args hp=some r):qa5 g af args hp=some r:=by
 unfold qa5 at *
 cases hb:Nat.ble args.length af.ntmps with
 | false=>simp [hb] at hr
 | true=>
  simp only [hb,cond_true] at hr ⊢
  split at hr
  ·rename_i st hst; rw [h _ _ _ hst]; exact hr
  ·rename_i st hst; rw [h _ _ _ hst]; exact hr
  ·cases hr
theorem qky (h:XLe f g) {k:Nat} {args:List AVal} {hp:qk} {r:AVal × Bool × qk} (hr:jg p f k args hp=some r):jg p g k args hp=some r:=by
 unfold jg at *
 split at hr
 ·exact qxg h hr
 ·exact hr
theorem q0i (h:XLe f g) {k:Nat} {args:List AVal} {r:AVal × Bool} (hr:qf p f k args=some r):qf p g k args=some r:=by
 unfold qf at *
 split at hr
 ·exact hr
 ·split at hr
  ·rename_i v o hh hc; rw [qky h hc]; exact hr
  ·cases hr
theorem q0h (h:XLe f g) {b:Nat} {args:List AVal} {hp:qk} {r:AVal × qk} (hr:kr f b args hp=some r):kr g b args hp=some r:=by
 unfold kr at *
 split at hr
 ·split at hr
  ·split at hr
   ·rename_i st hst
    rw [h _ _ _ hst]
    simp only []
    split at hr
    ·rename_i l1 hl1
     cases hp1:l1.pending.isNone with
     | false=>simp [hp1] at hr
     | true=>
      simp only [hp1,cond_true] at hr ⊢
      split at hr
      ·rename_i x st' hst'
       rw [h _ _ _ hst']
       exact hr
      ·cases hr
    ·cases hr
   ·cases hr
  ·cases hr
 ·cases hr
theorem qxj (h:XLe f g) {h0:Nat} {e:Env} {hp:qk} {md:CMode} {x:qv} {l:List qv} {r:ORes} (hr:kc p f h0 e hp md x l=some r):kc p g h0 e hp md x l=some r:=by
 unfold kc at *
 split at hr
 ·cases md with
  | iso=>
   simp only [] at hr ⊢
   rename_i k first captured vs _ _
   cases hb:jq 0 (first++vs++captured) with
   | false=>rw [hb] at hr; cases hr
   | true=>
    rw [hb] at hr
    simp only [cond_true] at hr ⊢
    split at hr
    ·rename_i v o hc; rw [q0i h hc]; exact hr
    ·cases hr
  | frz _=>exact hr
  | shr=>
   simp only [] at hr ⊢
   split at hr
   ·rename_i v o hh hc; rw [qky h hc]; exact hr
   ·cases hr
 ·cases md with
  | shr=>
   simp only [] at hr ⊢
   split at hr
   ·rename_i v hh hc; rw [q0h h hc]; exact hr
   ·cases hr
  | _=>simp at hr
 ·cases hr
theorem q1o (h:XLe f g) {h0:Nat} {al:Option (List Nat)} {e:Env} {hp:qk} {op:AOp} {r:ORes} (hr:qe p f h0 al e hp op=some r):qe p g h0 al e hp op=some r:=by
 cases op with
 | call md x l=>exact qxj h hr
 | append rk sz b x y=>cases rk <;> exact hr
 | mkslice rk sz b z n c=>cases rk <;> exact hr
 | _=>exact hr
theorem qop (h:XLe f g) {h0:Nat} {o:AOper} {st st':ASt} (hr:ym p f h0 o st=some st'):ym p g h0 o st=some st':=by
 unfold ym at *
 split at hr
 ·split at hr
  ·rename_i r hs; rw [q1o h hs]; exact hr
  ·cases hr
 ·exact hr
 ·cases hr
theorem qpu (h:XLe f g) {h0:Nat}:∀ {l:List AOper} {st st':ASt},qai p f h0 l st=some st'→qai p g h0 l st=some st'
 | [],_,_,hr=>hr
 | o::l,st,st',hr=>by
  simp only [qai] at hr ⊢
  split at hr
  ·rename_i s1 h1; rw [qop h h1]; exact qpu h hr
  ·cases hr
theorem qp3 (h:XLe f g) {na:Nat} {l:List AOper} {k:Option (List Nat)} {st:ASt} {r:jb × ASt} (hr:qar p f na l k st=some r):qar p g na l k st=some r:=by
 unfold qar at *
 split at hr
 ·rename_i s1 h1; rw [qpu h h1]; exact hr
 ·cases hr
theorem qse (h:XLe f g) {x:qv} {ps:List Nat} {a b:ACode} {st:ASt} {r:jb × ASt} (hr:qbe p f x ps a b st=some r):qbe p g x ps a b st=some r:=by
 unfold qbe at *
 cases hn:(zq a && zq b) with
 | false=>simp [hn] at hr
 | true=>
  simp only [hn,cond_true] at hr ⊢
  split at hr
  ·split at hr
   ·rename_i v o hh hc; rw [qky h hc]; exact hr
   ·cases hr
  ·cases hr
end
theorem quy (p:jl):∀ n,XLe (jh p n) (jh p (n + 1))
 | 0=>fun c st r h=>by simp [jh] at h
 | n + 1=>by
  have ih:=quy p n
  intro c st r h
  cases c with
  | region na l k=>simp only [jh] at h ⊢; exact qp3 ih h
  | rangeFunc f ps a b=>simp only [jh] at h ⊢; exact qse ih h
  | seq a b=>
   rw [jh] at h ⊢
   split at h
   ·rename_i st1 h1
    rw [ih _ _ _ h1]; exact ih _ _ _ h
   ·rename_i hne
    rw [ih _ _ _ h]
    split
    ·rename_i st1 h1; cases h1; exact absurd h (hne _)
    ·rfl
  | cond c a b=>
   rw [jh] at h ⊢
   split at h
   ·rename_i t ht
    cases t
    ·simp only [cond_false] at h ⊢; exact ih _ _ _ h
    ·simp only [cond_true] at h ⊢; exact ih _ _ _ h
   ·cases h
  | block id b=>
   rw [jh] at h ⊢
   split at h
   ·rename_i id' st1 h1
    rw [ih _ _ _ h1]; exact h
   ·rename_i hne
    rw [ih _ _ _ h]
    split
    ·rename_i id' st1 h1; cases h1; exact absurd h (hne _ _)
    ·rfl
  | loop b=>
   rw [jh] at h ⊢
   split at h
   ·rename_i st1 h1
    rw [ih _ _ _ h1]; exact ih _ _ _ h
   ·rename_i hne
    rw [ih _ _ _ h]
    split
    ·rename_i st1 h1; cases h1; exact absurd h (hne _)
    ·rfl
  | _=>exact h
theorem qbw (p:jl) {n m:Nat} (h:n≤m):XLe (jh p n) (jh p m):=by
 induction h with
 | refl=>exact fun _ _ _ h=>h
 | step _ ih=>exact fun c st r hr=>quy p _ c st r (ih c st r hr)
open Classical in
noncomputable def X (p:jl):XC:=fun c st=>if h:∃ r n,jh p n c st=some r then some (Classical.choose h) else none
theorem yk {p:jl} {c:ACode} {st:ASt} {r:jb × ASt}:X p c st=some r↔∃ n,jh p n c st=some r:=by
 unfold X
 constructor
 ·intro h
  split at h
  ·rename_i hh
   cases h
   exact Classical.choose_spec hh
  ·cases h
 ·rintro ⟨n,hn⟩
  have hh:∃ r n,jh p n c st=some r:=⟨r,n,hn⟩
  rw [dif_pos hh]
  obtain ⟨m,hm⟩:=Classical.choose_spec hh
  have h1:=qbw p (Nat.le_max_left n m) _ _ _ hn
  have h2:=qbw p (Nat.le_max_right n m) _ _ _ hm
  rw [h1] at h2
  exact h2.symm
theorem qhl {p:jl} (n:Nat):XLe (jh p n) (X p):=fun _ _ _ h=>yk.2 ⟨n,h⟩
section
variable {p:jl}
theorem qzw {af:qz} {args:List AVal} {hp:qk} {r:AVal × Bool × qk} (hr:qa5 (X p) af args hp=some r):∃ n,qa5 (jh p n) af args hp=some r:=by
 have hr0:=hr
 unfold qa5 at hr
 cases hb:Nat.ble args.length af.ntmps with
 | false=>simp [hb] at hr
 | true=>
  simp only [hb,cond_true] at hr
  have key:∀ {r'},X p af.body ⟨qad 0 args,hp⟩=some r'→∃ n,qa5 (jh p n) af args hp=some r:=by
   intro r' h
   obtain ⟨n,hn⟩:=yk.1 h
   refine ⟨n,?_⟩
   unfold qa5
   rw [hb,hn]
   rw [h] at hr
   exact hr
  split at hr
  ·rename_i st hst; exact key hst
  ·rename_i st hst; exact key hst
  ·cases hr
theorem qnt {k:Nat} {args:List AVal} {hp:qk} {r:AVal × Bool × qk} (hr:jg p (X p) k args hp=some r):∃ n,jg p (jh p n) k args hp=some r:=by
 unfold jg at *
 cases h:p.fns k with
 | none=>rw [h] at hr; exact ⟨0,hr⟩
 | some f=>rw [h] at hr; exact qzw hr
theorem qsb {k:Nat} {args:List AVal} {r:AVal × Bool} (hr:qf p (X p) k args=some r):∃ n,qf p (jh p n) k args=some r:=by
 unfold qf at *
 cases h:p.prims k with
 | some f=>rw [h] at hr; exact ⟨0,hr⟩
 | none=>
  rw [h] at hr
  simp only [] at hr ⊢
  split at hr
  ·rename_i v o hh hc
   obtain ⟨n,hn⟩:=qnt hc
   exact ⟨n,by rw [hn]; exact hr⟩
  ·cases hr
theorem q1a {b:Nat} {args:List AVal} {hp:qk} {r:AVal × qk} (hr:kr (X p) b args hp=some r):∃ n,kr (jh p n) b args hp=some r:=by
 unfold kr at hr
 split at hr
 ·rename_i l hl
  split at hr
  ·rename_i e hpn hse
   split at hr
   ·rename_i st hst
    split at hr
    ·rename_i l1 hl1
     cases hp1:l1.pending.isNone with
     | false=>simp [hp1] at hr
     | true=>
      simp only [hp1,cond_true] at hr
      split at hr
      ·rename_i x st' hst'
       obtain ⟨n,hn⟩:=yk.1 hst
       obtain ⟨m,hm⟩:=yk.1 hst'
       refine ⟨max n m,?_⟩
       have h1:=qbw p (Nat.le_max_left n m) _ _ _ hn
       have h2:=qbw p (Nat.le_max_right n m) _ _ _ hm
       simp only [kr,hl,hpn,hse,h1,hl1,hp1,cond_true,h2]
       exact hr
      ·cases hr
    ·cases hr
   ·cases hr
  ·cases hr
 ·cases hr
theorem qzl {h0:Nat} {e:Env} {hp:qk} {md:CMode} {x:qv} {l:List qv} {r:ORes} (hr:kc p (X p) h0 e hp md x l=some r):∃ n,kc p (jh p n) h0 e hp md x l=some r:=by
 unfold kc at hr
 split at hr
 ·rename_i k first captured vs e1 e2
  cases md with
  | iso=>
   simp only [] at hr
   cases hb:jq 0 (first++vs++captured) with
   | false=>rw [hb] at hr; cases hr
   | true=>
    rw [hb] at hr
    simp only [cond_true] at hr
    split at hr
    ·rename_i v o hc
     obtain ⟨n,hn⟩:=qsb hc
     refine ⟨n,?_⟩
     simp only [kc,e1,e2,hn]
     rw [hb]
     exact hr
    ·cases hr
  | frz _=>exact ⟨0,by simp only [kc,e1,e2]; exact hr⟩
  | shr=>
   simp only [] at hr
   split at hr
   ·rename_i v o hh hc
    obtain ⟨n,hn⟩:=qnt hc
    refine ⟨n,?_⟩
    simp only [kc,e1,e2,hn]
    exact hr
   ·cases hr
 ·rename_i b vs e1 e2
  cases md with
  | shr=>
   simp only [] at hr
   split at hr
   ·rename_i v hh hc
    obtain ⟨n,hn⟩:=q1a hc
    refine ⟨n,?_⟩
    simp only [kc,e1,e2,hn]
    exact hr
   ·cases hr
  | _=>simp at hr
 ·cases hr
theorem q5i {h0:Nat} {al:Option (List Nat)} {e:Env} {hp:qk} {op:AOp} {r:ORes} (hr:qe p (X p) h0 al e hp op=some r):∃ n,qe p (jh p n) h0 al e hp op=some r:=by
 cases op with
 | call md x l=>exact qzl hr
 | append rk sz b x y=>cases rk <;> exact ⟨0,hr⟩
 | mkslice rk sz b z n c=>cases rk <;> exact ⟨0,hr⟩
 | _=>exact ⟨0,hr⟩
theorem qy0 {h0:Nat} {o:AOper} {st st':ASt} (hr:ym p (X p) h0 o st=some st'):∃ n,ym p (jh p n) h0 o st=some st':=by
 unfold ym at *
 cases hg:qa4 st.env o.guard with
 | none=>simp [hg] at hr
 | some b=>
  rw [hg] at hr
  cases b with
  | false=>exact ⟨0,hr⟩
  | true=>
   simp only [] at hr ⊢
   split at hr
   ·rename_i r hs
    obtain ⟨n,hn⟩:=q5i hs
    exact ⟨n,by rw [hn]; exact hr⟩
   ·cases hr
theorem qy8 {h0:Nat}:∀ {l:List AOper} {st st':ASt},qai p (X p) h0 l st=some st'→∃ n,qai p (jh p n) h0 l st=some st'
 | [],_,_,hr=>⟨0,hr⟩
 | o::l,st,st',hr=>by
  simp only [qai] at hr
  split at hr
  ·rename_i s1 h1
   obtain ⟨n,hn⟩:=qy0 h1
   obtain ⟨m,hm⟩:=qy8 hr
   refine ⟨max n m,?_⟩
   simp only [qai]
   rw [qop (qbw p (Nat.le_max_left n m)) hn]
   exact qpu (qbw p (Nat.le_max_right n m)) hm
  ·cases hr
theorem q12 {na:Nat} {l:List AOper} {k:Option (List Nat)} {st:ASt} {r:jb × ASt} (hr:qar p (X p) na l k st=some r):∃ n,qar p (jh p n) na l k st=some r:=by
 unfold qar at hr
 split at hr
 ·rename_i s1 h1
  obtain ⟨n,hn⟩:=qy8 h1
  exact ⟨n,by unfold qar; rw [hn]; exact hr⟩
 ·cases hr
theorem q5a {x:qv} {ps:List Nat} {a b:ACode} {st:ASt} {r:jb × ASt} (hr:qbe p (X p) x ps a b st=some r):∃ n,qbe p (jh p n) x ps a b st=some r:=by
 unfold qbe at hr
 cases hn:(zq a && zq b) with
 | false=>simp [hn] at hr
 | true=>
  simp only [hn,cond_true] at hr
  split at hr
  ·rename_i k first captured hev
   split at hr
   ·rename_i v o hh hc
    obtain ⟨n,hn'⟩:=qnt hc
    refine ⟨n,?_⟩
    unfold qbe
    rw [hn,hev]
    simp only [cond_true]
    rw [hn']
    exact hr
   ·cases hr
  ·cases hr
theorem qfq {α:Type} {x y:Option α} (h1:∀ r,x=some r→y=some r) (h2:∀ r,y=some r→x=some r):x=y:=by
 cases x with
 | none=>
  cases y with
  | none=>rfl
  | some r=>exact (h2 r rfl)
 | some r=>exact (h1 r rfl).symm
theorem jfk {st:ASt}:X p .skip st=some (.normal,st):=yk.2 ⟨1,rfl⟩
theorem jio {id:Nat} {st:ASt}:X p (.exit id) st=some (.exit id,st):=yk.2 ⟨1,rfl⟩
theorem jm9 {st:ASt}:X p .ret st=some (.ret,st):=yk.2 ⟨1,rfl⟩
theorem ja2 {na:Nat} {l:List AOper} {k:Option (List Nat)} {st:ASt}:X p (.region na l k) st=qar p (X p) na l k st:=by
 refine qfq (fun r h=>?_) (fun r h=>?_)
 ·obtain ⟨n,hn⟩:=yk.1 h
  cases n with
  | zero=>simp [jh] at hn
  | succ n=>simp only [jh] at hn; exact qp3 (qhl n) hn
 ·obtain ⟨n,hn⟩:=q12 h
  exact yk.2 ⟨n + 1,by simp only [jh]; exact hn⟩
theorem qv3 {x:qv} {ps:List Nat} {a b:ACode} {st:ASt}:X p (.rangeFunc x ps a b) st=qbe p (X p) x ps a b st:=by
 refine qfq (fun r h=>?_) (fun r h=>?_)
 ·obtain ⟨n,hn⟩:=yk.1 h
  cases n with
  | zero=>simp [jh] at hn
  | succ n=>simp only [jh] at hn; exact qse (qhl n) hn
 ·obtain ⟨n,hn⟩:=q5a h
  exact yk.2 ⟨n + 1,by simp only [jh]; exact hn⟩
theorem jma {a b:ACode} {st:ASt}:X p (.seq a b) st=match X p a st with
  | some (.normal,st')=>X p b st'
  | r=>r:=by
 refine qfq (fun r h=>?_) (fun r h=>?_)
 ·obtain ⟨n,hn⟩:=yk.1 h
  cases n with
  | zero=>simp [jh] at hn
  | succ n=>
   rw [jh] at hn
   split at hn
   ·rename_i st1 h1; rw [qhl n _ _ _ h1]; exact qhl n _ _ _ hn
   ·rename_i hne
    rw [qhl n _ _ _ hn]
    split
    ·rename_i st1 h1; cases h1; exact absurd hn (hne _)
    ·rfl
 ·split at h
  ·rename_i st1 h1
   obtain ⟨n,hn⟩:=yk.1 h1
   obtain ⟨m,hm⟩:=yk.1 h
   refine yk.2 ⟨max n m + 1,?_⟩
   rw [jh,qbw p (Nat.le_max_left n m) _ _ _ hn]
   exact qbw p (Nat.le_max_right n m) _ _ _ hm
  ·rename_i hne
   obtain ⟨n,hn⟩:=yk.1 h
   refine yk.2 ⟨n + 1,?_⟩
   rw [jh,hn]
   split
   ·rename_i st1 h1; cases h1; exact absurd h (hne _)
   ·rfl
theorem jfo {c:qv} {a b:ACode} {st:ASt}:X p (.cond c a b) st=match qj st.env c with
  | some (.bool t)=>bif t then X p a st else X p b st
  | _=>none:=by
 refine qfq (fun r h=>?_) (fun r h=>?_)
 ·obtain ⟨n,hn⟩:=yk.1 h
  cases n with
  | zero=>simp [jh] at hn
  | succ n=>
   rw [jh] at hn
   split at hn
   ·rename_i t ht
    rw [ht]
    cases t
    ·simp only [cond_false] at hn ⊢; exact qhl n _ _ _ hn
    ·simp only [cond_true] at hn ⊢; exact qhl n _ _ _ hn
   ·cases hn
 ·split at h
  ·rename_i t ht
   cases t
   ·simp only [cond_false] at h
    obtain ⟨n,hn⟩:=yk.1 h
    exact yk.2 ⟨n + 1,by rw [jh,ht]; exact hn⟩
   ·simp only [cond_true] at h
    obtain ⟨n,hn⟩:=yk.1 h
    exact yk.2 ⟨n + 1,by rw [jh,ht]; exact hn⟩
  ·cases h
theorem jco {id:Nat} {b:ACode} {st:ASt}:X p (.block id b) st=match X p b st with
  | some (.exit id',st')=>bif Nat.beq id' id then some (.normal,st') else some (.exit id',st')
  | r=>r:=by
 refine qfq (fun r h=>?_) (fun r h=>?_)
 ·obtain ⟨n,hn⟩:=yk.1 h
  cases n with
  | zero=>simp [jh] at hn
  | succ n=>
   rw [jh] at hn
   split at hn
   ·rename_i id' st1 h1; rw [qhl n _ _ _ h1]; exact hn
   ·rename_i hne
    rw [qhl n _ _ _ hn]
    split
    ·rename_i id' st1 h1; cases h1; exact absurd hn (hne _ _)
    ·rfl
 ·split at h
  ·rename_i id' st1 h1
   obtain ⟨n,hn⟩:=yk.1 h1
   exact yk.2 ⟨n + 1,by rw [jh,hn]; exact h⟩
  ·rename_i hne
   obtain ⟨n,hn⟩:=yk.1 h
   refine yk.2 ⟨n + 1,?_⟩
   rw [jh,hn]
   split
   ·rename_i id' st1 h1; cases h1; exact absurd h (hne _ _)
   ·rfl
theorem jij {b:ACode} {st:ASt}:X p (.loop b) st=match X p b st with
  | some (.normal,st')=>X p (.loop b) (gc st.heap.length st')
  | r=>r:=by
 refine qfq (fun r h=>?_) (fun r h=>?_)
 ·obtain ⟨n,hn⟩:=yk.1 h
  cases n with
  | zero=>simp [jh] at hn
  | succ n=>
   rw [jh] at hn
   split at hn
   ·rename_i st1 h1; rw [qhl n _ _ _ h1]; exact qhl n _ _ _ hn
   ·rename_i hne
    rw [qhl n _ _ _ hn]
    split
    ·rename_i st1 h1; cases h1; exact absurd hn (hne _)
    ·rfl
 ·split at h
  ·rename_i st1 h1
   obtain ⟨n,hn⟩:=yk.1 h1
   obtain ⟨m,hm⟩:=yk.1 h
   refine yk.2 ⟨max n m + 1,?_⟩
   rw [jh,qbw p (Nat.le_max_left n m) _ _ _ hn]
   exact qbw p (Nat.le_max_right n m) _ _ _ hm
  ·rename_i hne
   obtain ⟨n,hn⟩:=yk.1 h
   refine yk.2 ⟨n + 1,?_⟩
   rw [jh,hn]
   split
   ·rename_i st1 h1; cases h1; exact absurd h (hne _)
   ·rfl
theorem jf1 {sz:Nat} {st:ASt}:X p (.grow sz) st=match look 0 st.env,look 1 st.env with
   | some (.list true _ _,_),some (.int .i64 (.ofNat m),_)=>bif Nat.blt 0 m && Nat.ble m 1073741824 then some (.normal,{ st with env:=[(0,.list false sz [],true)] }) else none
   | _,_=>none:=by
 refine qfq (fun r h=>?_) (fun r h=>?_)
 ·obtain ⟨n,hn⟩:=yk.1 h
  cases n with
  | zero=>simp [jh] at hn
  | succ n=>simp only [jh] at hn; exact hn
 ·exact yk.2 ⟨1,by simp only [jh]; exact h⟩
theorem qs0 {P:Program} (hp':ProgOk P p) {k:Nat} {args:List AVal} {v:AVal} {ow:Bool} (h:qf p (X p) k args=some (v,ow)) (hb:jq 0 args=true):yx P k args v ow:=by
 obtain ⟨n,hn⟩:=qsb h
 exact q19 hp' hn hb
end
def qbu:AVal→Bool
 | .bool _=>true
 | .int _ _=>true
 | .str _=>true
 | _=>false
def q03 (s:Nat) (st:ASt):Option ASt:=
 match st.heap,look s st.env with
 | [],some (.list false sz xs,true)=>bif Nat.beq sz 1 && xs.all qbu && st.env.all (fun y=>Nat.beq y.1 s || qbu y.2.1) then
   some ⟨(s,.ms 0 0 xs.length,false)::st.env,[.cells (cellsOf xs)]⟩ else none
 | _,_=>none
def qg7 (sz:Nat):Nat→List AVal→List AVal
 | 0,_=>[]
 | n + 1,cs=>(bif Nat.beq sz 1 then cs.headD .undef else .agg (cs.take sz))::qg7 sz n (cs.drop sz)
def qo3 (s sz:Nat) (st:ASt):Option ASt:=
 match st.heap,look s st.env with
 | [.cells cs],some (.ms 0 0 len,_)=>bif Nat.beq (len * sz) cs.length && Nat.blt 0 sz && cs.all (fun c=>below 0 c.1 && !c.1.isAgg) && st.env.all (fun y=>Nat.beq y.1 s || below 0 y.2.1) then
   some ⟨(s,.list false sz (qg7 sz len (cs.map (·.1))),false)::st.env,[]⟩ else none
 | _,_=>none
inductive GCode where
 | code (c:ACode)
 | seq (a b:GCode)
 | cond (c:qv) (a b:GCode)
 | block (id:Nat) (b:GCode)
 | loop (b:GCode)
 | thaw (s:Nat) (c:GCode)
 | shut (s sz:Nat) (c:GCode)
def GCode.erase:GCode→ACode
 | .code c=>c
 | .seq a b=>.seq a.erase b.erase
 | .cond c a b=>.cond c a.erase b.erase
 | .block id b=>.block id b.erase
 | .loop b=>.loop b.erase
 | .thaw _ c=>c.erase
 | .shut _ _ c=>c.erase
def qtg:ACode→Bool
 | .skip=>true
 | _=>false
inductive qaj (p:jl):GCode→ASt→jb→ASt→Prop where
 | code {c st x st'} (h:X p c st=some (x,st')):qaj p (.code c) st x st'
 | seqN {a b st st1 x st'} (hs:qtg b.erase=false) (h:qaj p a st .normal st1) (k:qaj p b st1 x st'):qaj p (.seq a b) st x st'
 | seqX {a b st x st'} (hs:qtg b.erase=false) (h:qaj p a st x st') (hx:x ≠ .normal):qaj p (.seq a b) st x st'
 | condT {c a b st x st'} (hc:qj st.env c=some (.bool true)) (h:qaj p a st x st'):qaj p (.cond c a b) st x st'
 | condF {c a b st x st'} (hc:qj st.env c=some (.bool false)) (h:qaj p b st x st'):qaj p (.cond c a b) st x st'
 | blockE {id b st st'} (h:qaj p b st (.exit id) st'):qaj p (.block id b) st .normal st'
 | qi1 {id b st x st'} (h:qaj p b st x st') (hx:x ≠ .exit id):qaj p (.block id b) st x st'
 | loopN {b st st1 x st'} (h:qaj p b st .normal st1) (k:qaj p (.loop b) (gc st.heap.length st1) x st'):qaj p (.loop b) st x st'
 | qkb {b st x st'} (h:qaj p b st x st') (hx:x ≠ .normal):qaj p (.loop b) st x st'
 | thaw {s c st st1 x st'} (ht:q03 s st=some st1) (h:qaj p c st1 x st'):qaj p (.thaw s c) st x st'
 | shut {s sz c st st1 x st'} (ht:qo3 s sz st=some st1) (h:qaj p c st1 x st'):qaj p (.shut s sz c) st x st'
theorem qtb {s:Nat} {x:AVal × Bool}:∀ {e:Env},look s e=some x→(s,x)∈e
 | [],h=>by simp [look] at h
 | (t,y)::e,h=>by
  simp only [look] at h
  cases hb:Nat.beq t s with
  | true=>
   rw [hb] at h
   simp only [cond_true,Option.some.injEq] at h
   have:=Nat.eq_of_beq_eq_true hb
   subst this; subst h
   exact List.mem_cons_self ..
  | false=>
   rw [hb] at h
   exact List.mem_cons_of_mem _ (qtb h)
theorem qw1 {C C':Ctx} {x:AVal} {v:Value} (hp:qbu x=true) (h:Rep C x v):Rep C' x v:=by
 cases x <;> simp only [qbu,Bool.false_eq_true] at hp <;> cases h <;> constructor
theorem q4b {x:AVal} (hp:qbu x=true):x.flat=[x]:=by
 cases x <;> simp only [qbu,Bool.false_eq_true] at hp <;> rfl
theorem q69 {C:Ctx} {ω:Nat→Option Loc} {w:World} {B:Nat} {ℓ:Loc} {x:AVal} {v:Value} (hp:qbu x=true):OwnV C ω w B ℓ x v:=by
 cases x <;> simp only [qbu,Bool.false_eq_true] at hp <;> trivial
theorem jc5 {P:Program} {K:Nat→Nat→Option Value} {C:Ctx} {ω:Nat→Option Loc} {w0 w:World} {env:Env} {tmps:Array Value} {s:Nat} {xs:List AVal}
  (hK:∀ r o u,K r o=some u→w0.cell? ⟨r,o,none⟩=some u) (m:MInv P C ω w0 (.iso K) [] w) (e:EnvRel C ω w w0.heap.size env tmps)
  (hs:look s env=some (.list false 1 xs,true)) (hx:xs.all qbu=true) (hv:(env.all fun y=>Nat.beq y.1 s || qbu y.2.1)=true):
  ∃ C',C'.D=C.D∧(Ctx.iso K).le C'∧MInv P C' ω w0 (.iso K) [.cells (cellsOf xs)] w∧EnvRel C' ω w w0.heap.size ((s,.ms 0 0 xs.length,false)::env) tmps:=by
 obtain ⟨v,hv1,hv2,hv3⟩:=e s _ hs
 have ho:=hv3 rfl
 have hpl:∀ x∈xs,qbu x=true:=fun x hx'=>List.all_eq_true.1 hx x hx'
 have hKlt:∀ r o u,K r o=some u→r < w0.heap.size:=by
  intro r o u h
  have h1:=hK r o u h
  unfold World.cell? at h1
  split at h1
  ·rename_i c _ _ hc; exact (Array.getElem?_eq_some_iff.1 hc).1
  ·cases h1
 cases hv2 with
 | lemp sz a hsp=>
  simp only [OwnV] at ho
  exact absurd ho.2.2.2.1 hsp
 | list sz _ r o cap hl hr=>
  simp only [OwnV] at ho
  obtain ⟨o1,o2,o3,_,o5,⟨cells,elem,o6,o7⟩,o8⟩:=ho
  subst o5
  have hW:C.W=fun _=>False:=m.grown.w
  have hB:w0.heap.size≤r:=o2.resolve_right (by rw [hW]; exact fun h=>h)
  have hlt:r < w.heap.size:=(Array.getElem?_eq_some_iff.1 o6).1
  let C':Ctx:={ C with K:=fun q o=>if q=r then none else C.K q o,β:=fun b=>if b=0 then some r else none }
  have hβ:∀ {b q},C'.β b=some q→b=0∧q=r:=by
   intro b q hb
   simp only [C'] at hb
   split at hb
   ·exact ⟨by assumption,by cases hb; rfl⟩
   ·cases hb
  have hK':∀ {q o u},C'.K q o=some u→q ≠ r∧C.K q o=some u:=by
   intro q o u h
   simp only [C'] at h
   split at h
   ·cases h
   ·exact ⟨by assumption,h⟩
  have hle:(Ctx.iso K).le C':=by
   refine ⟨fun q o u h=>?_,(fun b q h=>by cases h),m.grown.w,m.grown.d⟩
   have:=hKlt q o u h
   have hne:q ≠ r:=by omega
   simp only [C',if_neg hne]
   exact m.grown.k q o u h
  refine ⟨C',rfl,hle,?_,?_⟩
  ·exact {
    base:=m.base
    know:=fun q o u h=>m.know q o u (hK' h).2
    kone:=fun q o u h=>m.kone q o u (hK' h).2
    apart:=fun b q o h=>by obtain ⟨_,rfl⟩:=hβ h; simp [C']
    inj:=fun b b' q h h'=>by rw [(hβ h).1,(hβ h').1]
    lt:=fun b q h=>by obtain ⟨rfl,rfl⟩:=hβ h; exact ⟨hlt,by simp⟩
    size:=m.size
    frame:=m.frame
    dfr:=m.dfr
    os:=m.os
    output:=m.output
    fresh:=fun b q h=>by obtain ⟨_,rfl⟩:=hβ h; exact .inr (.inl hB)
    grown:=hle
    old:=fun q o hq hw=>by
     have hne:q ≠ r:=by omega
     simp only [C',if_neg hne]
     exact m.old q o hq hw
    box:=fun b x q hx' h=>by
     obtain ⟨rfl,rfl⟩:=hβ h
     simp only [List.getElem?_cons_zero,Option.some.injEq] at hx'
     subst hx'
     have hlen:(cellsOf xs).length=xs.length:=by simp [cellsOf]
     refine ⟨cells,elem,o6,by omega,?_⟩
     intro j c hc
     simp only [cellsOf,List.getElem?_map,Option.map_eq_some_iff] at hc
     obtain ⟨y,hy,rfl⟩:=hc
     have hyp:=hpl y (List.mem_of_getElem? hy)
     have hcell:=RepRow.get hr hy
     rw [q4b hyp] at hcell
     have h1:=RepC.get hcell (i:=0) (x:=y) rfl
     obtain ⟨u,k1,k2⟩:=h1
     have k1':C.K q j=some u:=by simpa using k1
     have k3:=m.know q j u k1'
     unfold World.cell? at k3
     rw [o6] at k3
     simp only [Option.isSome_none,Bool.false_eq_true,if_false] at k3
     exact ⟨u,k3,m.kone q j u k1',qw1 hyp k2,fun h=>by simp at h⟩ }
  ·intro t x ht
   by_cases hts:t=s
   ·subst hts
    rw [qaw] at ht
    cases ht
    exact ⟨_,hv1,.ms 0 0 xs.length r cap (by simp [C']) hl,fun h=>by simp at h⟩
   ·rw [qb3 hts] at ht
    obtain ⟨u,k1,k2,_⟩:=e t x ht
    have hmem:=List.all_eq_true.1 hv _ (qtb ht)
    have hpx:qbu x.1=true:=by
     simp only [Bool.or_eq_true] at hmem
     rcases hmem with h | h
     ·exact absurd (Nat.eq_of_beq_eq_true h) hts
     ·exact h
    exact ⟨u,k1,qw1 hpx k2,fun _=>q69 hpx⟩
theorem q9i {P:Program} {p:jl} (hp:ProgOk P p):qv5 P (X p):=by
 intro ρ nt c ca st st' x hc hn hx
 obtain ⟨n,hx'⟩:=yk.1 hx
 exact (qq6 hp n).1 ρ nt c ca st st' x hc hn hx'
def StI (P:Program) (w0:World) (K:Nat→Nat→Option Value) (nt:Nat) (st:ASt) (a:Act) (w:World):Prop:=
 a.tmps.size=nt∧∃ C' ω',Marks C' w0.heap.size a.defers∧MInv P C' ω' w0 (.iso K) st.heap w∧EnvRel C' ω' w w0.heap.size st.env a.tmps
def qqy (P:Program) (w0:World) (K:Nat→Nat→Option Value) (nt:Nat) (x:jb) (st':ASt):Exit→Act→World→Prop:=fun e a' w'=>e=qjq x∧StI P w0 K nt st' a' w'
theorem StOk.toI {P:Program} {w0:World} {K:Nat→Nat→Option Value} {C:Ctx} {nt:Nat} {st:ASt} {a:Act} {w:World} (h:StOk P w0 (.iso K) C nt st a w):StI P w0 K nt st a w:=by
 obtain ⟨h1,C',ω',_,h2,h3,h4⟩:=h
 exact ⟨h1,C',ω',h2,h3,h4⟩
theorem q74 {P:Program} {K:Nat→Nat→Option Value} {w0 w:World} {nt s:Nat} {st st':ASt} {a:Act} (hK:∀ r o u,K r o=some u→w0.cell? ⟨r,o,none⟩=some u) (ht:q03 s st=some st') (h:StI P w0 K nt st a w):StI P w0 K nt st' a w:=by
 unfold q03 at ht
 split at ht
 ·rename_i sz xs hh hs
  cases hb:(Nat.beq sz 1 && xs.all qbu && st.env.all (fun y=>Nat.beq y.1 s || qbu y.2.1)) with
  | false=>rw [hb] at ht; cases ht
  | true=>
   rw [hb] at ht
   simp only [cond_true,Option.some.injEq] at ht
   subst ht
   simp only [Bool.and_eq_true] at hb
   obtain ⟨⟨b1,b2⟩,b3⟩:=hb
   have:=Nat.eq_of_beq_eq_true b1
   subst this
   obtain ⟨hsz,C',ω',⟨rs,hmk1,hmk2,hmk3⟩,m,e⟩:=h
   rw [hh] at m
   obtain ⟨C2,q1,q2,q3,q4⟩:=jc5 hK m e hs b2 b3
   exact ⟨hsz,C2,ω',⟨rs,hmk1,hmk2,fun r hr=>by rw [q1]; exact hmk3 r hr⟩,q3,q4⟩
 ·cases ht
theorem OwnV.closeUp {C C':Ctx} {ω:Nat→Option Loc} {w:World} {B:Nat} {ℓ:Loc} {x:AVal} {v:Value} (h:OwnV C ω w B ℓ x v) (hβ:∀ {r} b,C'.β b ≠ some r) (hW:C'.W=C.W) (hK:∀ r,(∀ b,C.β b ≠ some r)→∀ o,C.K r o=none→C'.K r o=none):OwnV C' ω w B ℓ x v:=by
 unfold OwnV at *
 split at h
 ·obtain ⟨g1,g2,g3,g4,g5,g6,g7⟩:=h
  exact ⟨g1,by rw [hW]; exact g2,fun b=>hβ b,g4,g5,g6,fun o ho=>hK _ g3 o (g7 o ho)⟩
 ·trivial
theorem qzn {C:Ctx} {r:Nat}:∀ {ys:List AVal} {o:Nat},(∀ j x,ys[j]?=some x→∃ v,C.K r (o + j)=some v∧Rep C x v)→RepC C r ys o
 | [],o,_=>.cnil _ _
 | x::ys,o,h=>by
  obtain ⟨v,h1,h2⟩:=h 0 x rfl
  refine .ccons _ _ _ _ v (by simpa using h1) h2 (qzn fun j y hy=>?_)
  obtain ⟨v,k1,k2⟩:=h (j + 1) y (by simpa using hy)
  exact ⟨v,by rw [show o + 1 + j=o + (j + 1) by omega]; exact k1,k2⟩
theorem qt2 {C:Ctx} {r sz:Nat} (hz:0 < sz):∀ {n:Nat} {xs:List AVal} {o:Nat},xs.length=n * sz→(∀ x∈xs,x.isAgg=false)→(∀ j x,xs[j]?=some x→∃ v,C.K r (o + j)=some v∧Rep C x v)→RepRow C r sz (qg7 sz n xs) o
 | 0,xs,o,_,_,_=>.rnil _ _ _
 | n + 1,xs,o,hl,hp,h=>by
  rw [Nat.succ_mul] at hl
  have hf:(bif Nat.beq sz 1 then xs.headD .undef else AVal.agg (xs.take sz)).flat=xs.take sz:=by
   cases hb:Nat.beq sz 1 with
   | false=>rfl
   | true=>
    have:=Nat.eq_of_beq_eq_true hb
    subst this
    match xs,hl with
    | x::xs,_=>simp only [cond_true,List.headD_cons]; rw [qa8 (hp x (List.mem_cons_self ..))]; rfl
  refine .rcons _ _ _ _ _ ?_ ?_ (qt2 hz ?_ (fun x hx=>hp x (List.mem_of_mem_drop hx)) fun j x hx=>?_)
  ·rw [hf,List.length_take]; omega
  ·rw [hf]
   refine qzn fun j x hx=>h j x ?_
   rw [List.getElem?_take] at hx
   split at hx
   ·exact hx
   ·cases hx
  ·rw [List.length_drop]; omega
  ·rw [List.getElem?_drop] at hx
   obtain ⟨v,k1,k2⟩:=h _ x hx
   exact ⟨v,by rw [Nat.add_assoc]; exact k1,k2⟩
theorem qhn {sz:Nat}:∀ {n:Nat} {xs:List AVal},(qg7 sz n xs).length=n
 | 0,_=>rfl
 | n + 1,xs=>by simp only [qg7,List.length_cons]; rw [qhn]
theorem q7g {P:Program} {K:Nat→Nat→Option Value} {w0 w:World} {nt s sz:Nat} {st st':ASt} {a:Act} (hK:∀ r o u,K r o=some u→w0.cell? ⟨r,o,none⟩=some u) (ht:qo3 s sz st=some st') (h:StI P w0 K nt st a w):StI P w0 K nt st' a w:=by
 unfold qo3 at ht
 split at ht
 ·rename_i cs len ow hh hs
  cases hb:(Nat.beq (len * sz) cs.length && Nat.blt 0 sz && cs.all (fun c=>below 0 c.1 && !c.1.isAgg) && st.env.all (fun y=>Nat.beq y.1 s || below 0 y.2.1)) with
  | false=>rw [hb] at ht; cases ht
  | true=>
   rw [hb] at ht
   simp only [cond_true,Option.some.injEq] at ht
   subst ht
   simp only [Bool.and_eq_true] at hb
   obtain ⟨⟨⟨b1,b0⟩,b2⟩,b3⟩:=hb
   have b1:=Nat.eq_of_beq_eq_true b1
   have b0:0 < sz:=by simpa using b0
   obtain ⟨hsz,C,ω,⟨rs,hmk1,hmk2,hmk3⟩,m,e⟩:=h
   rw [hh] at m
   obtain ⟨v,hv1,hv2,_⟩:=e s _ hs
   cases hv2 with
   | ms b o ln r cap hβ hl=>
    obtain ⟨vs,elem,k1,k2,k3⟩:=m.box 0 (.cells cs) r rfl hβ
    have hlt:r < w.heap.size:=(m.lt 0 r hβ).1
    have hB:w0.heap.size≤r:=by
     rcases m.fresh 0 r hβ with h | h | h
     ·cases h
     ·exact h
     ·exact h.elim
    have hKlt:∀ r o u,K r o=some u→r < w0.heap.size:=by
     intro r o u h
     have h1:=hK r o u h
     unfold World.cell? at h1
     split at h1
     ·rename_i c _ _ hc; exact (Array.getElem?_eq_some_iff.1 hc).1
     ·cases h1
    let C':Ctx:={ C with K:=fun q o=>if q=r then (if o < cs.length then vs[o]? else none) else C.K q o,β:=fun _=>none }
    have hKr:∀ o,C.K r o=none:=fun o=>m.apart 0 r o hβ
    have hle:∀ q o u,C.K q o=some u→C'.K q o=some u:=by
     intro q o u h
     have hne:q ≠ r:=fun hq=>by subst hq; rw [hKr] at h; cases h
     simp only [C',if_neg hne]; exact h
    have hC'r:∀ {o u},C'.K r o=some u→o < cs.length∧vs[o]?=some u:=by
     intro o u h
     simp only [C',if_true] at h
     split at h
     ·exact ⟨by assumption,h⟩
     ·cases h
    have hcell:∀ j x,cs[j]?=some x→∃ u,C'.K r j=some u∧u.oneCell'=true∧Rep C x.1 u:=by
     intro j x hx
     obtain ⟨u,q1,q2,q3,_⟩:=k3 j x hx
     have hj:j < cs.length:=(List.getElem?_eq_some_iff.1 hx).1
     exact ⟨u,by simp only [C',if_true,if_pos hj]; exact q1,q2,q3⟩
    have hpl:∀ x∈cs,below 0 x.1=true∧x.1.isAgg=false:=fun x hx=>by simpa using List.all_eq_true.1 b2 x hx
    refine ⟨hsz,C',ω,⟨rs,hmk1,hmk2,fun r hr=>hmk3 r hr⟩,?_,?_⟩
    ·exact {
      base:=m.base
      know:=fun q o u h=>by
       by_cases hq:q=r
       ·subst hq
        obtain ⟨_,h2⟩:=hC'r h
        unfold World.cell?
        rw [k1]; simpa using h2
       ·simp only [C',if_neg hq] at h; exact m.know q o u h
      kone:=fun q o u h=>by
       by_cases hq:q=r
       ·subst hq
        obtain ⟨h1,h2⟩:=hC'r h
        obtain ⟨x,hx⟩:∃ x,cs[o]?=some x:=⟨cs[o],by simp [h1]⟩
        obtain ⟨u',q1,q2,_⟩:=hcell o x hx
        rw [h] at q1; cases q1; exact q2
       ·simp only [C',if_neg hq] at h; exact m.kone q o u h
      apart:=fun b q o h=>by cases h
      inj:=fun b b' q h=>by cases h
      lt:=fun b q h=>by cases h
      size:=m.size
      frame:=m.frame
      dfr:=m.dfr
      os:=m.os
      output:=m.output
      fresh:=fun b q h=>by cases h
      grown:=⟨fun q o u h=>hle q o u (m.grown.k q o u h),(fun b q h=>by cases h),m.grown.w,m.grown.d⟩
      old:=fun q o hq hw=>by
       have hne:q ≠ r:=by omega
       simp only [C',if_neg hne]
       exact m.old q o hq hw
      box:=fun b x q _ h=>by cases h }
    ·intro t x ht
     by_cases hts:t=s
     ·subst hts
      rw [qaw] at ht
      cases ht
      refine ⟨_,hv1,?_,fun h=>by simp at h⟩
      have hrow:RepRow C' r sz (qg7 sz len (cs.map (·.1))) 0:=by
       refine qt2 b0 (by rw [List.length_map]; exact b1.symm) (fun x hx=>?_) fun j x hx=>?_
       ·obtain ⟨c,hc,rfl⟩:=List.mem_map.1 hx; exact (hpl c hc).2
       ·simp only [List.getElem?_map,Option.map_eq_some_iff] at hx
        obtain ⟨c,hc,rfl⟩:=hx
        obtain ⟨u,q1,_,q3⟩:=hcell j c hc
        exact ⟨u,by simpa using q1,RepI.shift 0 hle (fun b q hb=>by omega) q3 (hpl c (List.mem_of_getElem? hc)).1⟩
      have:=RepI.list (C:=C') sz (qg7 sz len (cs.map (·.1))) r 0 cap (by rw [qhn]; exact hl) hrow
      rw [qhn] at this
      exact this
     ·rw [qb3 hts] at ht
      obtain ⟨u,q1,q2,q3⟩:=e t x ht
      have hmem:=List.all_eq_true.1 b3 _ (qtb ht)
      have hpx:below 0 x.1=true:=by
       simp only [Bool.or_eq_true] at hmem
       rcases hmem with h | h
       ·exact absurd (Nat.eq_of_beq_eq_true h) hts
       ·exact h
      refine ⟨u,q1,RepI.shift 0 hle (fun b q hb=>by omega) q2 hpx,fun ho=>?_⟩
      exact (q3 ho).closeUp (fun b h=>by cases h) rfl fun q hq o ho'=>by
       have hne:q ≠ r:=fun hh=>hq 0 (by rw [hh]; exact hβ)
       simp only [C',if_neg hne]
       exact ho'
 ·cases ht
theorem StI.gc {P:Program} {w0:World} {K:Nat→Nat→Option Value} {nt n:Nat} {st:ASt} {a:Act} {w:World} (h:StI P w0 K nt st a w):StI P w0 K nt (Abs.gc n st) a w:=by
 obtain ⟨h1,C',ω',h2,h3,h4⟩:=h
 unfold Abs.gc
 cases hb:Nat.ble st.heap.length n with
 | true=>exact ⟨h1,C',ω',h2,h3,h4⟩
 | false=>
  simp only [cond_false]
  cases hb2:(yy n st.env && ju n (st.heap.take n)) with
  | false=>exact ⟨h1,C',ω',h2,h3,h4⟩
  | true=>
   simp only [cond_true]
   simp only [Bool.and_eq_true] at hb2
   have hn:n≤st.heap.length:=by
    rcases Nat.lt_or_ge n st.heap.length with h | h
    ·omega
    ·rw [Nat.ble_eq_true_of_le h] at hb; cases hb
   exact ⟨h1,C'.cut n,ω',⟨h2.choose,h2.choose_spec.1,h2.choose_spec.2.1,h2.choose_spec.2.2⟩,h3.gc hn hb2.2 (fun b r h=>by cases h),h4.cut hb2.1⟩
theorem qke {P:Program} {J:Act→World→Prop} {w0:World} {K:Nat→Nat→Option Value} {nt:Nat} {x:jb} {st':ASt} {Q:Exit→Act→World→Prop} {e:Exit} {a:Act} {w:World} (h:qqy P w0 K nt x st' e a w) (hn:x=.normal→StI P w0 K nt st' a w→J a w) (ho:x ≠ .normal→StI P w0 K nt st' a w→Q (qjq x) a w):Exit.then J Q e a w:=by
 obtain ⟨rfl,h⟩:=h
 cases x with
 | normal=>exact hn rfl h
 | exit id=>exact ho (by simp) h
 | ret=>exact ho (by simp) h
theorem qys {P:Program} {nt:Nat} {c:Code} {x y:ACode} (hc:qb4 P nt c (.seq x y)) (hs:qtg y=false):∃ c1 c2,c=.seq c1 c2∧qb4 P nt c1 x∧qb4 P nt c2 y:=by
 obtain ⟨hh,h⟩:=hc
 cases c with
 | seq c1 c2=>
  simp only [zb] at h
  split at h
  ·rename_i x1 x2 k1 k2
   cases h
   exact ⟨c1,c2,rfl,⟨hh,k1⟩,⟨hh,k2⟩⟩
  ·cases h
 | scope b=>
  simp only [zb,Option.map_eq_some_iff,ACode.seq.injEq] at h
  obtain ⟨b',k1,rfl,rfl⟩:=h
  simp [qtg] at hs
 | region id ops draw=>
  simp only [zb] at h
  split at h
  ·cases h
  ·unfold qdo at h
   split at h
   ·split at h <;> cases h
   ·cases h
 | cond x c1 c2=>
  simp only [zb] at h
  split at h <;> cases h
 | rangeFunc f ps x1 x2=>
  simp only [zb] at h
  split at h
  ·split at h <;> cases h
  ·cases h
 | block id b=>simp [zb] at h
 | loop b=>simp [zb] at h
 | _=>simp [zb] at h
theorem qwn {P:Program} {nt:Nat} {c:Code} {v:qv} {x y:ACode} (hc:qb4 P nt c (.cond v x y)):∃ u c1 c2,c=.cond u c1 c2∧ja u=some v∧qb4 P nt c1 x∧qb4 P nt c2 y:=by
 obtain ⟨hh,h⟩:=hc
 cases c with
 | cond u c1 c2=>
  simp only [zb] at h
  split at h
  ·rename_i v' x1 x2 k0 k1 k2
   cases h
   exact ⟨u,c1,c2,rfl,k0,⟨hh,k1⟩,⟨hh,k2⟩⟩
  ·cases h
 | region id ops draw=>
  simp only [zb] at h
  split at h
  ·cases h
  ·unfold qdo at h
   split at h
   ·split at h <;> cases h
   ·cases h
 | seq c1 c2=>
  simp only [zb] at h
  split at h <;> cases h
 | rangeFunc f ps x1 x2=>
  simp only [zb] at h
  split at h
  ·split at h <;> cases h
  ·cases h
 | scope b=>simp [zb] at h
 | block id b=>simp [zb] at h
 | loop b=>simp [zb] at h
 | _=>simp [zb] at h
theorem qva {P:Program} {nt id:Nat} {c:Code} {x:ACode} (hc:qb4 P nt c (.block id x)):∃ c1,c=.block id c1∧qb4 P nt c1 x:=by
 obtain ⟨hh,h⟩:=hc
 cases c with
 | block id' b=>
  simp only [zb,Option.map_eq_some_iff,ACode.block.injEq] at h
  obtain ⟨b',k1,rfl,rfl⟩:=h
  exact ⟨b,rfl,hh,k1⟩
 | region id ops draw=>
  simp only [zb] at h
  split at h
  ·cases h
  ·unfold qdo at h
   split at h
   ·split at h <;> cases h
   ·cases h
 | seq c1 c2=>
  simp only [zb] at h
  split at h <;> cases h
 | cond x c1 c2=>
  simp only [zb] at h
  split at h <;> cases h
 | rangeFunc f ps x1 x2=>
  simp only [zb] at h
  split at h
  ·split at h <;> cases h
  ·cases h
 | scope b=>simp [zb] at h
 | loop b=>simp [zb] at h
 | _=>simp [zb] at h
theorem q76 {P:Program} {nt:Nat} {c:Code} {x:ACode} (hc:qb4 P nt c (.loop x)):∃ c1,c=.loop c1∧qb4 P nt c1 x:=by
 obtain ⟨hh,h⟩:=hc
 cases c with
 | loop b=>
  simp only [zb,Option.map_eq_some_iff,ACode.loop.injEq] at h
  obtain ⟨b',k1,rfl⟩:=h
  exact ⟨b,rfl,hh,k1⟩
 | region id ops draw=>
  simp only [zb] at h
  split at h
  ·cases h
  ·unfold qdo at h
   split at h
   ·split at h <;> cases h
   ·cases h
 | seq c1 c2=>
  simp only [zb] at h
  split at h <;> cases h
 | cond x c1 c2=>
  simp only [zb] at h
  split at h <;> cases h
 | rangeFunc f ps x1 x2=>
  simp only [zb] at h
  split at h
  ·split at h <;> cases h
  ·cases h
 | scope b=>simp [zb] at h
 | block id b=>simp [zb] at h
 | _=>simp [zb] at h
theorem jyg {P:Program} {p:jl} (hp:ProgOk P p) {nt:Nat} {K:Nat→Nat→Option Value} {w0:World} (hK:∀ r o u,K r o=some u→w0.cell? ⟨r,o,none⟩=some u) {g:GCode} {st st':ASt} {x:jb} (h:qaj p g st x st'):
  (∀ c,qb4 P nt c g.erase→∀ (a:Act) (w:World),StI P w0 K nt st a w→c.wpIn (ki none) 0 P (qqy P w0 K nt x st') a w) ∧
  (∀ b,g=.loop b→∀ c,qb4 P nt c b.erase→∀ (a:Act) (w:World),StI P w0 K nt st a w→LoopWp none P c (qqy P w0 K nt x st') a w):=by
 have ofLoop:∀ {b:GCode} {st st':ASt} {x:jb},(∀ c,qb4 P nt c b.erase→∀ (a:Act) (w:World),StI P w0 K nt st a w→LoopWp none P c (qqy P w0 K nt x st') a w) →
   (∀ c,qb4 P nt c (GCode.loop b).erase→∀ (a:Act) (w:World),StI P w0 K nt st a w→c.wpIn (ki none) 0 P (qqy P w0 K nt x st') a w) ∧
   (∀ b',GCode.loop b=.loop b'→∀ c,qb4 P nt c b'.erase→∀ (a:Act) (w:World),StI P w0 K nt st a w→LoopWp none P c (qqy P w0 K nt x st') a w):=by
  intro b st st' x h
  refine ⟨fun c hc a w hst=>?_,fun b' hb=>by cases hb; exact h⟩
  obtain ⟨c1,rfl,k1⟩:=q76 hc
  exact (h c1 k1 a w hst).wpIn
 induction h with
 | code hc=>
  refine ⟨fun c hcp a w hst=>?_,fun b hb=>by cases hb⟩
  obtain ⟨hsz,C',ω',hm,m,e⟩:=hst
  refine wpIn_mono (q9i hp none nt c _ _ _ _ hcp (fun h=>absurd rfl h) hc C' w0 (.iso K) a w ⟨hsz,C',ω',Ctx.le_refl _,hm,m,e⟩) ?_
  rintro e a' w' ⟨rfl,hq⟩
  exact ⟨rfl,hq.toI⟩
 | seqN hs h k ih1 ih2=>
  refine ⟨fun c hcp a w hst=>?_,fun b hb=>by cases hb⟩
  obtain ⟨c1,c2,rfl,k1,k2⟩:=qys hcp hs
  exact wpIn_seq (wpIn_mono (ih1.1 c1 k1 a w hst) fun e a' w' hq=>qke hq (fun _ h1=>ih2.1 c2 k2 a' w' h1) (fun hh=>absurd rfl hh))
 | seqX hs h hx ih1=>
  refine ⟨fun c hcp a w hst=>?_,fun b hb=>by cases hb⟩
  obtain ⟨c1,c2,rfl,k1,k2⟩:=qys hcp hs
  exact wpIn_seq (wpIn_mono (ih1.1 c1 k1 a w hst) fun e a' w' hq=>qke hq (fun hh=>absurd hh hx) (fun _ h1=>⟨rfl,h1⟩))
 | condT hc h ih=>
  refine ⟨fun c hcp a w hst=>?_,fun b hb=>by cases hb⟩
  obtain ⟨u,c1,c2,rfl,k0,k1,k2⟩:=qwn hcp
  have hst':=hst
  obtain ⟨_,_,_,_,_,e⟩:=hst
  exact wpIn_cond (t:=true) (jc e.rep k0 hc).bool_inv (ih.1 c1 k1 a w hst')
 | condF hc h ih=>
  refine ⟨fun c hcp a w hst=>?_,fun b hb=>by cases hb⟩
  obtain ⟨u,c1,c2,rfl,k0,k1,k2⟩:=qwn hcp
  have hst':=hst
  obtain ⟨_,_,_,_,_,e⟩:=hst
  exact wpIn_cond (t:=false) (jc e.rep k0 hc).bool_inv (ih.1 c2 k2 a w hst')
 | blockE h ih=>
  refine ⟨fun c hcp a w hst=>?_,fun b hb=>by cases hb⟩
  obtain ⟨c1,rfl,k1⟩:=qva hcp
  refine wpIn_block (wpIn_mono (ih.1 c1 k1 a w hst) ?_)
  rintro e a' w' ⟨rfl,hst1⟩
  simp only [qjq,Exit.inBlock,if_true]
  exact ⟨rfl,hst1⟩
 | qi1 h hx ih=>
  refine ⟨fun c hcp a w hst=>?_,fun b hb=>by cases hb⟩
  obtain ⟨c1,rfl,k1⟩:=qva hcp
  refine wpIn_block (wpIn_mono (ih.1 c1 k1 a w hst) ?_)
  rename_i id _ _ x _
  rintro e a' w' ⟨rfl,hst1⟩
  cases x with
  | normal=>exact ⟨rfl,hst1⟩
  | ret=>exact ⟨rfl,hst1⟩
  | exit id'=>
   have hne:¬ id'=id:=fun hh=>hx (by rw [hh])
   simp only [qjq,Exit.inBlock,hne,if_false]
   exact ⟨rfl,hst1⟩
 | loopN h k ih1 ih2=>
  refine ofLoop fun c hc a w hst=>LoopWp.of_body (wpIn_mono (ih1.1 c hc a w hst) fun e a' w' hq=>qke hq (fun _ h1=>?_) (fun hh=>absurd rfl hh))
  exact ih2.2 _ rfl c hc a' w' h1.gc
 | qkb h hx ih1=>
  exact ofLoop fun c hc a w hst=>LoopWp.of_body (wpIn_mono (ih1.1 c hc a w hst) fun e a' w' hq=>qke hq (fun hh=>absurd hh hx) (fun _ h1=>⟨rfl,h1⟩))
 | thaw ht h ih=>exact ⟨fun c hcp a w hst=>ih.1 c hcp a w (q74 hK ht hst),fun b hb=>by cases hb⟩
 | shut ht h ih=>exact ⟨fun c hcp a w hst=>ih.1 c hcp a w (q7g hK ht hst),fun b hb=>by cases hb⟩
theorem qnc {P:Program} {p:jl} (hp:ProgOk P p) {k:Nat} {f:qz} {g:GCode} {args:List AVal} {st:ASt} {x:jb} {v:AVal} {xs:List (AVal × Bool)} (hf:p.fns k=some f) (hg:f.body=g.erase) (hlen:args.length≤f.ntmps)
  (hrun:qaj p g ⟨qad 0 args,[]⟩ x st) (hx:x=.normal∨x=.ret) (hres:ya st f.results=some xs) (hfz:freezeR (yz st f.results) (jz xs).1=some v) (hpv:qc1 v=true):yx P k args v false:=by
 obtain ⟨fn,hh,hfn,hcf⟩:=hp.fn k f hf
 obtain ⟨c,hbd,h1,h2,h3,_⟩:=qsu hcf
 intro K w vs ht hK hK1 hargs
 have m0:=qs9 (P:=P) ht hK hK1
 have hvl:=hargs.length
 refine callsIn_of_wp_marks hfn hbd trivial ?_
 have hsz:((⟨vs⟩:Array Value)++Array.replicate (fn.ntmps - (⟨vs⟩:Array Value).size) undef).size=fn.ntmps:=by
  simp; omega
 have henv:EnvRel (.iso K) (fun _=>none) w w.heap.size (qad 0 args) ((⟨vs⟩:Array Value)++Array.replicate (fn.ntmps - (⟨vs⟩:Array Value).size) undef):=by
  intro s x hx
  obtain ⟨j,rfl,hj,hf⟩:=qk9 hx
  obtain ⟨u,k1,k2⟩:=hargs.get hj
  have hlt:j < vs.length:=(List.getElem?_eq_some_iff.1 k1).1
  refine ⟨u,?_,k2,by simp [hf]⟩
  rw [Nat.zero_add,Array.getElem?_append_left (by simpa using hlt)]
  simpa using k1
 refine wpIn_mono ((jyg hp (nt:=fn.ntmps) (K:=K) (w0:=w) hK hrun).1 c ⟨hh,by rw [← hg]; exact h1⟩ _ w ⟨hsz,.iso K,_,Marks.nil,m0,henv⟩) ?_
 rintro e a' w' ⟨rfl,q1,C',ω',⟨rs,hds,hnd,hrs⟩,m',e'⟩
 have fin:LeavesInM Fence.wide 0 P fn a'.tmps (fun e w'=>∃ u K',e=.returned u∧Ext w w'∧(∀ r o x,K r o=some x→K' r o=some x)∧(∀ r o,r < w.heap.size→K' r o=K r o) ∧
   (∀ r o x,K' r o=some x→w'.cell? ⟨r,o,none⟩=some x)∧(∀ r o x,K' r o=some x→x.oneCell'=true)∧Rep (.iso K') v u ∧
   (false=true→∃ ℓ ω',OwnV (.iso K') ω' w' w.heap.size ℓ v u)) a'.defers .returning w':=by
  rw [hds]
  refine qpc (C:=.iso K) (ω:=ω') (w0:=w) (hp:=st.heap) (env:=st.env) rs C' w' m'.grown m' e' hnd hrs (fun k hk=>hk.elim) ?_
  intro C2 w2 hle2 _ m2 e2
  obtain ⟨u,ω2,k1,k2,k3,k4⟩:=qr1 (fn:=fn) m2 e2 h2 hres
  refine ⟨u,k1,u,yw C2 w2,rfl,?_,fun r o x hr=>qhy k2 (hle2.1 r o x hr),fun r o hr=>?_,fun r o x hr=>(qe7 k2 hr).1,fun r o x hr=>(qe7 k2 hr).2,qsg k2 hfz k3 hpv,fun h=>by cases h⟩
  ·exact ⟨k2.size,fun r hr=>k2.frame r hr (by simp [Ctx.iso]) (by simp [Ctx.iso]),k2.os,k2.output⟩
  ·have hold:=k2.old r o hr (by simp [Ctx.iso])
   unfold yw
   rw [if_neg]
   ·exact hold
   rintro ⟨b,hb⟩
   rcases k2.fresh b r hb with h | h | h
   ·cases h
   ·omega
   ·exact h.elim
 rcases hx with rfl | rfl
 ·exact fin
 ·exact fin
section
variable {P:Program}
theorem Tabs.table {w:World} (h:Tabs P w) {g:Nat} (hg:P.globalNamed qa1=some g):Lib.TabIs P w qa1 .u64 Lib.pow10Tab:=(h g (.inl hg)).2.1 hg
theorem Tabs.length {w:World} (h:Tabs P w) {g:Nat} (hg:P.globalNamed qfk=some g):∃ m,w.cell? ⟨g,0,Option.none⟩=some (.int .i64 m):=(h g (.inr (.inl hg))).2.2.1 hg
theorem qwu {k:Nat} {args:List AVal} {v:AVal} (h:∀ (K:Nat→Nat→Option Value) (w:World) (vs:List Value),Tabs P w→(∀ r o u,K r o=some u→w.cell? ⟨r,o,none⟩=some u)→RepL (.iso K) args vs →
  ∃ u,Rep (.iso K) v u∧Calls P k ⟨vs⟩ w fun e w'=>e=.returned u∧Ext w w'):yx P k args v false:=by
 intro K w vs ht h1 h2 hr
 obtain ⟨u,hu,hc⟩:=h K w vs ht h1 hr
 refine callsIn_wide.2 (hc.mono ?_)
 rintro e w' ⟨rfl,hx⟩
 exact ⟨u,K,rfl,hx,fun _ _ _ h=>h,fun _ _ _=>rfl,fun r o x hk=>hx.cell (h1 r o x hk),h2,hu,fun h=>by cases h⟩
end
open Go
def qit:List UInt8→List UInt8→Bool
 | [],[]=>true
 | a::l,b::m=>bif Nat.beq a.toNat b.toNat then qit l m else false
 | _,_=>false
theorem qol:∀ {l m:List UInt8},qit l m=true→l=m
 | [],[],_=>rfl
 | [],_::_,h=>by simp [qit] at h
 | _::_,[],h=>by simp [qit] at h
 | a::l,b::m,h=>by
  simp only [qit,Bool.cond_eq_ite] at h
  split at h
  ·next hb=>rw [UInt8.toNat_inj.1 (Nat.eq_of_beq_eq_true hb),qol h]
  ·exact absurd h (by simp)
def qx7:Int→Int→Bool
 | .ofNat a,.ofNat b=>Nat.beq a b
 | .negSucc a,.negSucc b=>Nat.beq a b
 | _,_=>false
theorem q17:∀ {a b:Int},qx7 a b=true→a=b
 | .ofNat _,.ofNat _,h=>by rw [Nat.eq_of_beq_eq_true h]
 | .negSucc _,.negSucc _,h=>by rw [Nat.eq_of_beq_eq_true h]
 | .ofNat _,.negSucc _,h=>by simp [qx7] at h
 | .negSucc _,.ofNat _,h=>by simp [qx7] at h
mutual
def eqV:AVal→AVal→Bool
 | .bool a,.bool b=>a == b
 | .int k a,.int k' b=>bif decide (k=k') then qx7 a b else false
 | .str a,.str b=>qit a b
 | .list a n xs,.list b m ys=>bif a == b then bif Nat.beq n m then eqL xs ys else false else false
 | .agg xs,.agg ys=>eqL xs ys
 | .tup xs,.tup ys=>eqL xs ys
 | _,_=>false
def eqL:List AVal→List AVal→Bool
 | [],[]=>true
 | a::l,b::m=>bif eqV a b then eqL l m else false
 | _,_=>false
end
mutual
theorem q5v:∀ {a b:AVal},eqV a b=true→a=b:=by
 intro a b h
 match a,b with
 | .bool _,.bool _=>simp only [eqV,beq_iff_eq] at h; rw [h]
 | .int k a,.int k' b=>
  simp only [eqV,Bool.cond_eq_ite,decide_eq_true_eq] at h
  split at h
  ·next hk=>rw [hk,q17 h]
  ·exact absurd h (by simp)
 | .str _,.str _=>simp only [eqV] at h; rw [qol h]
 | .list a n xs,.list b m ys=>
  simp only [eqV,Bool.cond_eq_ite,beq_iff_eq] at h
  split at h
  ·next h1=>
   split at h
   ·next h2=>rw [h1,Nat.eq_of_beq_eq_true h2,qgv h]
   ·exact absurd h (by simp)
  ·exact absurd h (by simp)
 | .agg _,.agg _=>simp only [eqV] at h; rw [qgv h]
 | .tup _,.tup _=>simp only [eqV] at h; rw [qgv h]
 | .bool _,.int .. | .bool _,.str _ | .bool _,.list .. | .bool _,.agg _ | .bool _,.tup _=>simp [eqV] at h
 | .int ..,.bool _ | .int ..,.str _ | .int ..,.list .. | .int ..,.agg _ | .int ..,.tup _=>simp [eqV] at h
 | .str _,.bool _ | .str _,.int .. | .str _,.list .. | .str _,.agg _ | .str _,.tup _=>simp [eqV] at h
 | .list ..,.bool _ | .list ..,.int .. | .list ..,.str _ | .list ..,.agg _ | .list ..,.tup _=>simp [eqV] at h
 | .agg _,.bool _ | .agg _,.int .. | .agg _,.str _ | .agg _,.list .. | .agg _,.tup _=>simp [eqV] at h
 | .tup _,.bool _ | .tup _,.int .. | .tup _,.str _ | .tup _,.list .. | .tup _,.agg _=>simp [eqV] at h
 | .ms ..,_ | .ptr ..,_ | .vptr _,_ | .nilptr,_ | .map _,_ | .nilmap,_ | .fn ..,_ | .nilfn,_ | .undef,_=>simp [eqV] at h
 | .bool _,.ms .. | .bool _,.ptr .. | .bool _,.vptr _ | .bool _,.nilptr | .bool _,.map _ | .bool _,.nilmap | .bool _,.fn .. | .bool _,.nilfn | .bool _,.undef=>simp [eqV] at h
 | .int ..,.ms .. | .int ..,.ptr .. | .int ..,.vptr _ | .int ..,.nilptr | .int ..,.map _ | .int ..,.nilmap | .int ..,.fn .. | .int ..,.nilfn | .int ..,.undef=>simp [eqV] at h
 | .str ..,.ms .. | .str ..,.ptr .. | .str ..,.vptr _ | .str ..,.nilptr | .str ..,.map _ | .str ..,.nilmap | .str ..,.fn .. | .str ..,.nilfn | .str ..,.undef=>simp [eqV] at h
 | .list ..,.ms .. | .list ..,.ptr .. | .list ..,.vptr _ | .list ..,.nilptr | .list ..,.map _ | .list ..,.nilmap | .list ..,.fn .. | .list ..,.nilfn | .list ..,.undef=>simp [eqV] at h
 | .agg ..,.ms .. | .agg ..,.ptr .. | .agg ..,.vptr _ | .agg ..,.nilptr | .agg ..,.map _ | .agg ..,.nilmap | .agg ..,.fn .. | .agg ..,.nilfn | .agg ..,.undef=>simp [eqV] at h
 | .tup ..,.ms .. | .tup ..,.ptr .. | .tup ..,.vptr _ | .tup ..,.nilptr | .tup ..,.map _ | .tup ..,.nilmap | .tup ..,.fn .. | .tup ..,.nilfn | .tup ..,.undef=>simp [eqV] at h
theorem qgv:∀ {l m:List AVal},eqL l m=true→l=m:=by
 intro l m h
 match l,m with
 | [],[]=>rfl
 | [],_::_=>simp [eqL] at h
 | _::_,[]=>simp [eqL] at h
 | a::l,b::m=>
  simp only [eqL,Bool.cond_eq_ite] at h
  split at h
  ·next h1=>rw [q5v h1,qgv h]
  ·exact absurd h (by simp)
end
abbrev Row:=List AVal × AVal × Bool
def qm3 (args:List AVal):List Row→Option (AVal × Bool)
 | []=>none
 | r::l=>bif eqL r.1 args then some r.2 else qm3 args l
theorem qsf {args:List AVal} {x:AVal × Bool}:∀ {l:List Row},qm3 args l=some x→(args,x)∈l
 | [],h=>by simp [qm3] at h
 | r::l,h=>by
  simp only [qm3,Bool.cond_eq_ite] at h
  split at h
  ·next hb=>
   simp only [Option.some.injEq] at h
   rw [← qgv hb,← h]
   exact List.mem_cons_self ..
  ·exact List.mem_cons_of_mem _ (qsf h)
def qni (tab:Nat→Option (List Row)):qgj:=fun k=>(tab k).map fun l args=>qm3 args l
def q4c (P:Program) (tab:Nat→Option (List Row)):Prop:=
 ∀ k l,tab k=some l→∀ r∈l,yx P k r.1 r.2.1 r.2.2
def qii:List (Nat × List Row)→Nat→Option (List Row)
 | [],_=>none
 | (k,l)::t,n=>bif Nat.beq k n then some l else qii t n
def qvp (P:Program) (k:Nat):List Row→Prop
 | []=>True
 | r::l=>yx P k r.1 r.2.1 r.2.2∧qvp P k l
def q6r (P:Program):List (Nat × List Row)→Prop
 | []=>True
 | (k,l)::t=>qvp P k l∧q6r P t
theorem qz8 {P:Program} {k:Nat}:∀ {l:List Row},qvp P k l→∀ r∈l,yx P k r.1 r.2.1 r.2.2
 | r::l,h,x,hx=>by
  cases hx with
  | head=>exact h.1
  | tail _ hx=>exact qz8 h.2 x hx
theorem q7k {P:Program}:∀ {t:List (Nat × List Row)},q6r P t→q4c P (qii t)
 | (j,m)::t,h,k,l,hk=>by
  simp only [qii,Bool.cond_eq_ite] at hk
  split at hk
  ·next hb=>
   rw [Nat.eq_of_beq_eq_true hb] at h
   simp only [Option.some.injEq] at hk
   subst hk
   exact qz8 h.1
  ·exact q7k h.2 k l hk
theorem q4o {P:Program} {t:FTree} {tab:Nat→Option (List Row)} {M:q3l} (h:ProgOk P (t.prog (fun _=>none) M)) (ht:q4c P tab) (he:∀ k l,tab k=some l→Enters P k):ProgOk P (t.prog (qni tab) M) where
 fn:=h.fn
 prim:=by
  intro k f hf
  simp only [FTree.prog,qni,Option.map_eq_some_iff] at hf
  obtain ⟨l,hl,rfl⟩:=hf
  refine ⟨he k l hl,fun args v o hv _ _=>ht k l hl _ (qsf hv)⟩
 mixed:=h.mixed
 maps:=h.maps
theorem q5g {P:Program} {p:jl} (h:ProgOk P p) {n k b:Nat} {ow:Bool} {h1:qk} {es:List (AVal × AVal)} (hr:jg p (zo p n) k [] []=some (.map b,ow,h1)) (hb:h1[b]?=some (.map es)) (he:qah 0 es=true):Enters P k∧qvq P k es:=
 q5b h (CodeOk.of' (qq6 h n).1) (by rw [← qqc]; exact hr) hb he
theorem zw {P:Program} {p:jl} (h:ProgOk P p) {n k:Nat} {args:List AVal} {v:AVal} {o:Bool} (hr:qf p (zo p n) k args=some (v,o)) (hb:jq 0 args=true:=by rfl):yx P k args v o:=
 q19 h (q7h hr) hb
end Go.Abs
