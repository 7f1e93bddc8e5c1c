/- The executor for the kernel's run. -/
import Derived.Test.YtnjngdcbkkonnaaGreatDoorAbsG
import Derived.WalkKit
import Derived.ProofKit
import Derived.OpenShut
import Derived.ShutString
import Derived.ChangeOld
import Derived.Below
import Derived.Carry
import Derived.KernelRfl
import Derived.CallsIn
set_option linter.unusedVariables false
set_option linter.unusedSimpArgs false
namespace Go.Abs
def qak {α:Type} (n:Nat) (f:Nat→α):α:=match n with
 | 0=>f 0
 | m + 1=>f (Nat.succ m)
def qqd {α:Type} (n:Int) (f:Int→α):α:=match n with
 | .ofNat a=>qak a fun a=>f (.ofNat a)
 | .negSucc a=>qak a fun a=>f (.negSucc a)
def qgm {α:Type} (b:Bool) (f:Bool→α):α:=match b with
 | true=>f true
 | false=>f false
def qt4 {α:Type} (k:IntKind) (f:IntKind→α):α:=match k with
 | .i8=>f .i8 | .i16=>f .i16 | .i32=>f .i32 | .i64=>f .i64 | .u8=>f .u8 | .u16=>f .u16 | .u32=>f .u32 | .u64=>f .u64
def qe5 {α:Type}:List UInt8→(List UInt8→α)→α
 | [],f=>f []
 | c::s,f=>qe5 s fun s=>f (c::s)
def qs7 {α:Type} (g:Fn) (f:Fn→α):α:=match g with
 | .func k=>qak k fun k=>f (.func k)
 | .yield k=>qak k fun k=>f (.yield k)
 | g=>f g
mutual
def qaa {α:Type}:AVal→(AVal→α)→α
 | .bool b,f=>qgm b fun b=>f (.bool b)
 | .int k n,f=>qt4 k fun k=>qqd n fun n=>f (.int k n)
 | .str s,f=>qe5 s fun s=>f (.str s)
 | .list b sz xs,f=>qgm b fun b=>qak sz fun sz=>qei xs fun xs=>f (.list b sz xs)
 | .ms b o l,f=>qak b fun b=>qak o fun o=>qak l fun l=>f (.ms b o l)
 | .ptr b o,f=>qak b fun b=>qak o fun o=>f (.ptr b o)
 | .vptr v,f=>qaa v fun v=>f (.vptr v)
 | .nilptr,f=>f .nilptr
 | .map b,f=>qak b fun b=>f (.map b)
 | .nilmap,f=>f .nilmap
 | .fn g a c,f=>qs7 g fun g=>qei a fun a=>qei c fun c=>f (.fn g a c)
 | .nilfn,f=>f .nilfn
 | .agg cs,f=>qei cs fun cs=>f (.agg cs)
 | .tup cs,f=>qei cs fun cs=>f (.tup cs)
 | .undef,f=>f .undef
 | .any,f=>f .any
def qei {α:Type}:List AVal→(List AVal→α)→α
 | [],f=>f []
 | x::xs,f=>qaa x fun x=>qei xs fun xs=>f (x::xs)
end
def qh8 {α:Type}:Env→(Env→α)→α
 | [],f=>f []
 | (t,v,o)::e,f=>qak t fun t=>qaa v fun v=>qgm o fun o=>qh8 e fun e=>f ((t,v,o)::e)
def qhh {α:Type}:List (AVal × Bool)→(List (AVal × Bool)→α)→α
 | [],f=>f []
 | (v,o)::e,f=>qaa v fun v=>qgm o fun o=>qhh e fun e=>f ((v,o)::e)
def qek {α:Type}:List (AVal × AVal)→(List (AVal × AVal)→α)→α
 | [],f=>f []
 | (k,v)::e,f=>qaa k fun k=>qaa v fun v=>qek e fun e=>f ((k,v)::e)
def qnm {α:Type} (x:Option ji) (f:Option ji→α):α:=match x with
 | none=>f none
 | some .normal=>f (some .normal)
 | some (.exit id)=>qak id fun id=>f (some (.exit id))
 | some .ret=>f (some .ret)
def qql {α:Type}:ABox→(ABox→α)→α
 | .hole,f=>f .hole
 | .cells cs,f=>qhh cs fun cs=>f (.cells cs)
 | .map es,f=>qek es fun es=>f (.map es)
 | .iter s pos,f=>qak pos fun pos=>f (.iter s pos)
 | .bld t e l,f=>qe5 l fun l=>f (.bld t e l)
 | .dead,f=>f .dead
 | .loop l,f=>qh8 l.env fun e=>qnm l.pending fun x=>f (.loop ⟨e,l.params,l.assign,l.body,x⟩)
def qit {α:Type}:qk→(qk→α)→α
 | [],f=>f []
 | b::h,f=>qql b fun b=>qit h fun h=>f (b::h)
def qkc {α:Type} (st:ASt) (f:ASt→α):α:=qh8 st.env fun e=>qit st.heap fun h=>f ⟨e,h⟩
section
variable {α:Type}
theorem qa4 (n:Nat) (f:Nat→α):qak n f=f n:=by cases n <;> rfl
theorem qyu (n:Int) (f:Int→α):qqd n f=f n:=by cases n <;> simp [qqd,qa4]
theorem qex (n:Bool) (f:Bool→α):qgm n f=f n:=by cases n <;> rfl
theorem qx4 (n:IntKind) (f:IntKind→α):qt4 n f=f n:=by cases n <;> rfl
theorem qgt:∀ (s:List UInt8) (f:List UInt8→α),qe5 s f=f s
 | [],_=>rfl
 | c::s,f=>by simp only [qe5]; rw [qgt s]
theorem q1p (g:Fn) (f:Fn→α):qs7 g f=f g:=by cases g <;> simp [qs7,qa4]
mutual
theorem qgi:∀ (v:AVal) (f:AVal→α),qaa v f=f v
 | .bool b,f=>by simp only [qaa,qex]
 | .int k n,f=>by simp only [qaa,qx4,qyu]
 | .str s,f=>by simp only [qaa,qgt]
 | .list b sz xs,f=>by simp only [qaa,qex,qa4]; rw [qec xs]
 | .ms b o l,f=>by simp only [qaa,qa4]
 | .ptr b o,f=>by simp only [qaa,qa4]
 | .vptr v,f=>by simp only [qaa]; rw [qgi v]
 | .nilptr,f=>by simp only [qaa]
 | .map b,f=>by simp only [qaa,qa4]
 | .nilmap,f=>by simp only [qaa]
 | .fn g a c,f=>by simp only [qaa,q1p]; rw [qec a,qec c]
 | .nilfn,f=>by simp only [qaa]
 | .agg cs,f=>by simp only [qaa]; rw [qec cs]
 | .tup cs,f=>by simp only [qaa]; rw [qec cs]
 | .undef,f=>by simp only [qaa]
 | .any,f=>by simp only [qaa]
theorem qec:∀ (l:List AVal) (f:List AVal→α),qei l f=f l
 | [],f=>by simp only [qei]
 | x::xs,f=>by simp only [qei]; rw [qgi x,qec xs]
end
theorem qjm:∀ (e:Env) (f:Env→α),qh8 e f=f e
 | [],_=>rfl
 | (t,v,o)::e,f=>by simp only [qh8,qa4,qgi,qex]; rw [qjm e]
theorem qm1:∀ (e:List (AVal × Bool)) (f:List (AVal × Bool)→α),qhh e f=f e
 | [],_=>rfl
 | (v,o)::e,f=>by simp only [qhh,qgi,qex]; rw [qm1 e]
theorem qi2:∀ (e:List (AVal × AVal)) (f:List (AVal × AVal)→α),qek e f=f e
 | [],_=>rfl
 | (v,o)::e,f=>by simp only [qek,qgi]; rw [qi2 e]
theorem qyn (x:Option ji) (f:Option ji→α):qnm x f=f x:=by
 cases x with
 | none=>rfl
 | some x=>cases x <;> simp [qnm,qa4]
theorem qzw (b:ABox) (f:ABox→α):qql b f=f b:=by
 cases b <;> simp [qql,qm1,qi2,qa4,qgt,qjm,qyn]
theorem qno:∀ (h:qk) (f:qk→α),qit h f=f h
 | [],_=>rfl
 | b::h,f=>by simp only [qit,qzw]; rw [qno h]
theorem qlq (st:ASt) (f:ASt→α):qkc st f=f st:=by simp only [qkc,qjm,qno]
end
def zm (p:ju):Nat→XC
 | 0,_,_=>none
 | n + 1,c,st=>match c with
  | .skip=>some (.normal,st)
  | .region na ops keep=>match qax p (zm p n) na ops keep st with
   | some (x,st')=>qkc st' fun s=>some (x,s)
   | none=>none
  | .seq a b=>match zm p n a st with
   | some (.normal,st')=>zm p n b st'
   | r=>r
  | .cond c a b=>match ql st.env c with
   | some (.bool t)=>bif t then zm p n a st else zm p n b st
   | _=>none
  | .block id body=>match zm p n body st with
   | some (.exit id',st')=>bif Nat.beq id' id then some (.normal,st') else some (.exit id',st')
   | r=>r
  | .loop body=>match zm p n body st with
   | some (.normal,st')=>qkc (gc st.heap.length st') fun s=>zm p n (.loop body) s
   | r=>r
  | .rangeFunc f params assign body=>match qbh p (zm p n) f params assign body st with
   | some (x,st')=>qkc st' fun s=>some (x,s)
   | none=>none
  | .exit id=>some (.exit id,st)
  | .ret=>some (.ret,st)
  | .grow sz=>match jp 0 st.env,jp 1 st.env with
   | some (.list true _ _,_),some (.int .i64 (.ofNat m),_)=>bif Nat.blt 0 m && Nat.ble m 1073741824 then some (.normal,{ st with env:=[(0,.list false sz [],true)] }) else none
   | _,_=>none
  | .stuck=>none
theorem qnk (p:ju):∀ n,zm p n=jn p n
 | 0=>by funext c st; rfl
 | n + 1=>by
  have ih:=qnk p n
  funext c st
  cases c with
  | region na ops keep=>
   simp only [zm,jn,ih]
   cases qax p (jn p n) na ops keep st with
   | none=>rfl
   | some r=>simp only [qlq]
  | rangeFunc f ps a b=>
   simp only [zm,jn,ih]
   cases qbh p (jn p n) f ps a b st with
   | none=>rfl
   | some r=>simp only [qlq]
  | loop body=>
   simp only [zm,jn,ih,qlq]
   rfl
  | _=>simp only [zm,jn,ih] <;> rfl
inductive FTree where
 | leaf (k:Nat) (f:je)
 | node (m:Nat) (a b:FTree)
def FTree.find:FTree→Nat→Option je
 | .leaf k f,n=>bif Nat.beq k n then some f else none
 | .node m a b,n=>bif Nat.blt n m then a.find n else b.find n
def FTree.All (Q:Nat→je→Prop):FTree→Prop
 | .leaf k f=>Q k f
 | .node _ a b=>a.All Q∧b.All Q
theorem FTree.find_all {Q:Nat→je→Prop}:∀ {t:FTree} {k:Nat} {f:je},t.All Q→t.find k=some f→Q k f
 | .leaf j g,k,f,h,hf=>by
  simp only [FTree.find] at hf
  cases hb:Nat.beq j k with
  | false=>simp [hb] at hf
  | true=>
   have:=Nat.eq_of_beq_eq_true hb
   subst this
   simp only [hb,cond_true,Option.some.injEq] at hf
   subst hf; exact h
 | .node m a b,k,f,h,hf=>by
  simp only [FTree.find] at hf
  cases hb:Nat.blt k m with
  | true=>simp only [hb,cond_true] at hf; exact FTree.find_all h.1 hf
  | false=>simp only [hb,cond_false] at hf; exact FTree.find_all h.2 hf
def FTree.prog (t:FTree) (prims:qg8) (maps:q3h:=fun _=>none):ju:={ fns:=t.find,prims:=prims,maps:=maps }
theorem q4c {p:ju} {n k:Nat} {args:List AVal} {r:Option (AVal × Bool)} (h:qc p (zm p n) k args=r):qc p (jn p n) k args=r:=by
 rw [← qnk]; exact h
def Kw (w:World):Nat→Nat→Option Value:=fun r o=>(w.cell? ⟨r,o,none⟩).filter (·.oneCell')
theorem jh3 {w:World} {r o:Nat} {v:Value} (h:w.cell? ⟨r,o,none⟩=some v) (h1:v.oneCell'=true):Kw w r o=some v:=by simp [Kw,h,h1]
theorem q05 {w:World} {r o:Nat} {v:Value} (h:Kw w r o=some v):w.cell? ⟨r,o,none⟩=some v∧v.oneCell'=true:=by
 unfold Kw at h; rw [Option.filter_eq_some_iff] at h; exact h
def qd2 (P:Program) (t:TypeId):Bool:=match P.underlying t with
 | some (.struct _)=>true
 | some (.array _ _)=>true
 | _=>false
def qvg (P:Program):Nat→List Field→Bool
 | _,[]=>true
 | o,f::fs=>f.offset == o && qvg P (o + P.cellsOf f.type) fs
def qi3 (P:Program) (fs:List Field):Nat:=(fs.map fun f=>P.cellsOf f.type).sum
def qc8 (P:Program):Nat→TypeId→Bool
 | 0,_=>false
 | n + 1,t=>match P.underlying t with
  | some .bool=>P.cellsOf t == 1
  | some (.int _)=>P.cellsOf t == 1
  | some .string=>P.cellsOf t == 1
  | some (.slice e)=>P.cellsOf t == 1 && qc8 P n e && decide (0 < P.cellsOf e)
  | some (.struct fs)=>qvg P 0 fs.toList && qi3 P fs.toList == P.cellsOf t && fs.toList.all fun f=>qc8 P n f.type
  | some (.array k e)=>P.cellsOf t == k * P.cellsOf e && qc8 P n e
  | _=>false
def qki (ty:TypeId→List AVal→Prop):List Field→List AVal→Prop
 | [],cs=>cs=[]
 | f::fs,cs=>∃ ys zs,cs=ys++zs∧ty f.type ys∧qki ty fs zs
def qik (ty:List AVal→Prop):Nat→List AVal→Prop
 | 0,cs=>cs=[]
 | k + 1,cs=>∃ ys zs,cs=ys++zs∧ty ys∧qik ty k zs
def zp (P:Program):Nat→TypeId→List AVal→Prop
 | 0,_,_=>False
 | n + 1,t,cs=>match P.underlying t with
  | some .bool=>∃ b,cs=[.bool b]
  | some (.int k)=>∃ m,cs=[.int k m]∧(Lit.int k m).wf=true
  | some .string=>∃ s,cs=[.str s]∧s.length≤maxLen
  | some (.slice e)=>cs=[.list true 0 []]∨∃ xs,cs=[.list false (P.cellsOf e) xs]∧xs.length≤maxLen∧∀ y∈xs,zp P n e y.flat∧y.isAgg=qd2 P e
  | some (.struct fs)=>qki (zp P n) fs.toList cs
  | some (.array k e)=>qik (zp P n e) k cs
  | _=>False
section
variable {P:Program} {H:Type} {enc:TypeId × Value→H} {w:World}
theorem qun:∀ (fs:List Field) (o:Nat) (vs:List Value),qvg P o fs=true→vs.length=o + qi3 P fs→vs.drop o=(fs.map fun f=>(vs.drop f.offset).take (P.cellsOf f.type)).flatten
 | [],o,vs,_,hl=>by simp [qi3] at hl; simp [hl]
 | f::fs,o,vs,ht,hl=>by
  simp only [qvg,Bool.and_eq_true,beq_iff_eq] at ht
  obtain ⟨rfl,ht⟩:=ht
  have ih:=qun fs _ vs ht (by simp [qi3] at hl ⊢; omega)
  rw [List.map_cons,List.flatten_cons,← ih,← List.drop_drop,List.take_append_drop]
theorem qht {α β:Type} {f:α→Option β}:∀ {l:List α} {ys:List β},l.mapM f=some ys→ys.length=l.length∧∀ (i:Nat) (x:α),l[i]?=some x→∃ y,ys[i]?=some y∧f x=some y
 | [],ys,h=>by simp at h; subst h; simp
 | a::l,ys,h=>by
  rw [List.mapM_cons] at h
  cases hf:f a with
  | none=>simp [hf] at h
  | some y=>
   cases hr:l.mapM f with
   | none=>simp [hf,hr] at h
   | some zs=>
    simp [hf,hr] at h
    subst h
    obtain ⟨h1,h2⟩:=qht hr
    refine ⟨by simp [h1],fun i x hx=>?_⟩
    cases i with
    | zero=>simp at hx; subst hx; exact ⟨y,rfl,hf⟩
    | succ i=>simp at hx; obtain ⟨z,h3,h4⟩:=h2 i x hx; exact ⟨z,by simpa using h3,h4⟩
theorem qym {base n:Nat} {a:Addr} {vs:List Value} (h:w.cells? base a n=some vs):vs.length=n∧∀ (i:Nat) (v:Value),vs[i]?=some v→w.cell? (a.add i)=some v:=by
 unfold World.cells? at h
 split at h
 ·obtain ⟨h1,h2⟩:=qht h
  rw [List.length_range] at h1
  refine ⟨h1,fun i v hv=>?_⟩
  have hi:i < n:=by rw [← h1]; exact (List.getElem?_eq_some_iff.1 hv).1
  obtain ⟨y,h3,h4⟩:=h2 i i (by rw [List.getElem?_range hi])
  rw [hv] at h3; cases h3; exact h4
 ·cases h
theorem qr0 {ty:TypeId→List AVal→Prop}:∀ (fs:List Field) (vss:List (List Value)),vss.length=fs.length→(∀ (i:Nat) (f:Field) (vs:List Value),fs[i]?=some f→vss[i]?=some vs→∃ cs,RepL (.iso (Kw w)) cs vs∧ty f.type cs)→∃ cs,RepL (.iso (Kw w)) cs vss.flatten∧qki ty fs cs
 | [],vss,hl,_=>by
  have:vss=[]:=List.length_eq_zero_iff.1 (by simpa using hl)
  subst this
  exact ⟨[],.nil,rfl⟩
 | f::fs,[],hl,_=>by simp at hl
 | f::fs,vs::vss,hl,h=>by
  obtain ⟨ys,h1,h2⟩:=h 0 f vs rfl rfl
  obtain ⟨zs,h3,h4⟩:=qr0 fs vss (by simpa using hl) (fun i f' vs' hf hv=>h (i + 1) f' vs' (by simpa using hf) (by simpa using hv))
  exact ⟨ys++zs,RepL.append h1 h3,ys,zs,rfl,h2,h4⟩
theorem qpp {ty:List AVal→Prop}:∀ (k:Nat) (vss:List (List Value)),vss.length=k→(∀ (i:Nat) vs,vss[i]?=some vs→∃ cs,RepL (.iso (Kw w)) cs vs∧ty cs)→∃ cs,RepL (.iso (Kw w)) cs vss.flatten∧qik ty k cs
 | 0,vss,hl,_=>by
  have:vss=[]:=List.length_eq_zero_iff.1 hl
  subst this
  exact ⟨[],.nil,rfl⟩
 | k + 1,[],hl,_=>by simp at hl
 | k + 1,vs::vss,hl,h=>by
  obtain ⟨ys,h1,h2⟩:=h 0 vs rfl
  obtain ⟨zs,h3,h4⟩:=qpp k vss (by simpa using hl) (fun i vs' hv=>h (i + 1) vs' (by simpa using hv))
  exact ⟨ys++zs,RepL.append h1 h3,ys,zs,rfl,h2,h4⟩
theorem q0a (n:Nat):∀ (k:Nat) (vs:List Value),vs.length=k * n→vs=((List.range k).map fun i=>(vs.drop (i * n)).take n).flatten
 | 0,vs,hl=>by
  have:vs=[]:=List.length_eq_zero_iff.1 (by simpa using hl)
  simp [this]
 | k + 1,vs,hl=>by
  have ih:=q0a n k (vs.drop n) (by simp [hl,Nat.succ_mul])
  rw [List.range_succ_eq_map,List.map_cons,List.flatten_cons,List.map_map]
  have e:(List.range k).map ((fun i=>(vs.drop (i * n)).take n) ∘ Nat.succ)=(List.range k).map fun i=>((vs.drop n).drop (i * n)).take n:=by
   apply List.map_congr_left
   intro i _
   simp only [Function.comp,List.drop_drop]
   congr 2
   rw [Nat.succ_mul]; omega
  rw [e,← ih]
  simp
theorem qgw:∀ {n:Nat} {t:TypeId} {cs:List AVal},zp P n t cs→∀ x∈cs,qp x=true
 | 0,_,_,h=>h.elim
 | n + 1,t,cs,h=>by
  have fsc:∀ (fs:List Field) (cs:List AVal),qki (zp P n) fs cs→∀ x∈cs,qp x=true:=by
   intro fs
   induction fs with
   | nil=>intro cs h; simp only [qki] at h; subst h; simp
   | cons f fs ih=>
    rintro cs ⟨ys,zs,rfl,h1,h2⟩ x hx
    rcases List.mem_append.1 hx with hx | hx
    ·exact qgw h1 x hx
    ·exact ih _ h2 x hx
  have rsc:∀ (e:TypeId) (k:Nat) (cs:List AVal),qik (zp P n e) k cs→∀ x∈cs,qp x=true:=by
   intro e k
   induction k with
   | zero=>intro cs h; simp only [qik] at h; subst h; simp
   | succ k ih=>
    rintro cs ⟨ys,zs,rfl,h1,h2⟩ x hx
    rcases List.mem_append.1 hx with hx | hx
    ·exact qgw h1 x hx
    ·exact ih _ h2 x hx
  simp only [zp] at h
  split at h
  ·obtain ⟨b,rfl⟩:=h; simp [qp]
  ·obtain ⟨m,rfl,_⟩:=h; simp [qp]
  ·obtain ⟨s,rfl,_⟩:=h; simp [qp]
  ·rcases h with rfl | ⟨xs,rfl,_⟩ <;> simp [qp]
  ·exact fsc _ _ h
  ·exact rsc _ _ _ h
  ·exact h.elim
theorem qrp {n:Nat} {t:TypeId} {cs:List AVal} (h:zp P n t cs) (ha:qd2 P t=false):∃ x,cs=[x]∧x.isAgg=false:=by
 cases n with
 | zero=>exact h.elim
 | succ n=>
  unfold qd2 at ha
  simp only [zp] at h
  split at h
  ·obtain ⟨b,rfl⟩:=h; exact ⟨_,rfl,rfl⟩
  ·obtain ⟨m,rfl,_⟩:=h; exact ⟨_,rfl,rfl⟩
  ·obtain ⟨s,rfl,_⟩:=h; exact ⟨_,rfl,rfl⟩
  ·rcases h with rfl | ⟨xs,rfl,_⟩ <;> exact ⟨_,rfl,rfl⟩
  ·rename_i hu; rw [hu] at ha; cases ha
  ·rename_i hu; rw [hu] at ha; cases ha
  ·exact h.elim
theorem read {held:Bool}:∀ (n fuel:Nat) (t:TypeId) (vs:List Value) (d:DataW H) (ps:List MemPlace),qc8 P n t=true→DataW.trod enc P w 0 (fun _=>true) held fuel t vs=some (d,ps) →
  ∃ cs,RepL (.iso (Kw w)) cs vs∧zp P n t cs∧cs.length=P.cellsOf t
 | 0,_,_,_,_,_,hp,_=>by simp [qc8] at hp
 | n + 1,0,_,_,_,_,_,h=>by simp [DataW.trod] at h
 | n + 1,fuel + 1,t,vs,d,ps,hp,h=>by
  simp only [qc8] at hp
  simp only [zp]
  simp only [DataW.trod] at h
  cases hu:P.underlying t with
  | none=>simp [hu] at hp
  | some td=>
   rw [hu] at h hp
   cases td with
   | bool=>
    simp only [beq_iff_eq] at hp
    split at h <;> first | cases ‹some _=some _› | skip
    all_goals first | (rename_i heq; cases heq; done) | skip
    ·exact ⟨_,.cons _ _ _ _ (.bool _) .nil,⟨_,rfl⟩,by simp [hp]⟩
    ·cases h
   | int k=>
    simp only [beq_iff_eq] at hp
    split at h <;> first | cases ‹some _=some _› | skip
    all_goals first | (rename_i heq; cases heq; done) | skip
    ·split at h
     ·rename_i hk
      obtain ⟨rfl,hk2⟩:=hk
      exact ⟨_,.cons _ _ _ _ (.int _ _) .nil,⟨_,rfl,hk2⟩,by simp [hp]⟩
     ·cases h
    ·cases h
   | string=>
    simp only [beq_iff_eq] at hp
    split at h <;> first | cases ‹some _=some _› | skip
    all_goals first | (rename_i heq; cases heq; done) | skip
    ·rename_i s
     split at h
     ·rename_i hk
      refine ⟨[.str s.data.toList],.cons _ _ _ _ (RepI.str s.data.toList) .nil,⟨_,rfl,?_⟩,by simp [hp]⟩
      simpa using hk
     ·cases h
    ·cases h
   | slice e=>
    simp only [Bool.and_eq_true,beq_iff_eq,decide_eq_true_eq] at hp
    obtain ⟨⟨hp1,hp2⟩,hp3⟩:=hp
    split at h <;> first | cases ‹some _=some _› | skip
    all_goals first | (rename_i heq; cases heq; done) | skip
    ·exact ⟨_,.cons _ _ _ _ (.lnil 0) .nil,.inl rfl,by simp [hp1]⟩
    ·rename_i a len cap
     split at h
     ·rename_i hk
      obtain ⟨_,hk2,hk3⟩:=hk
      cases he:(List.range len).mapM (fun i=>(w.cells? 0 (a.add (i * P.cellsOf e)) (P.cellsOf e)).bind (DataW.trod enc P w 0 (fun _=>true) held fuel e)) with
      | none=>simp [he] at h
      | some elems=>
       simp only [he,Option.bind_some,if_true] at h
       cases hr:(List.range (cap - len)).mapM (fun j=>(w.cells? 0 (a.add ((len + j) * P.cellsOf e)) (P.cellsOf e)).bind (DataW.trod enc P w 0 (fun _=>true) held fuel e)) with
       | none=>simp [hr] at h
       | some rest=>
        obtain ⟨he1,he2⟩:=qht he
        obtain ⟨hr1,hr2⟩:=qht hr
        rw [List.length_range] at he1 hr1
        have hspot:0 < cap→a.spot=none:=fun hc=>by
         have hz0:∃ z,(w.cells? 0 (a.add (0 * P.cellsOf e)) (P.cellsOf e)).bind (DataW.trod enc P w 0 (fun _=>true) held fuel e)=some z:=by
          by_cases hl:0 < len
          ·obtain ⟨y,_,hy⟩:=he2 0 0 (by rw [List.getElem?_range hl]); exact ⟨y,hy⟩
          ·obtain ⟨y,_,hy⟩:=hr2 0 0 (by rw [List.getElem?_range (by omega)])
           have hl0:len=0:=by omega
           subst hl0
           exact ⟨y,by simpa using hy⟩
         obtain ⟨z0,hz0⟩:=hz0
         cases hc0:w.cells? 0 (a.add (0 * P.cellsOf e)) (P.cellsOf e) with
         | none=>rw [hc0] at hz0; cases hz0
         | some us0=>
          obtain ⟨d1,d2⟩:=qym hc0
          have hcc:=d2 0 _ (List.getElem?_eq_getElem (show 0 < us0.length by omega))
          have:=World.cell?_spot hcc
          simpa [Addr.add] using this
        by_cases hcap:0 < cap
        ·have hs0:=hspot hcap
         obtain ⟨r,o,sp⟩:=a
         simp only at hs0
         subst hs0
         have elem:∀ (i:Nat),i < len→∃ y:AVal,RepC (.iso (Kw w)) r y.flat (o + i * P.cellsOf e)∧y.flat.length=P.cellsOf e∧zp P n e y.flat∧y.isAgg=qd2 P e:=by
          intro i hi
          obtain ⟨z,_,hz⟩:=he2 i i (by rw [List.getElem?_range hi])
          cases hc:w.cells? 0 ((⟨r,o,none⟩:Addr).add (i * P.cellsOf e)) (P.cellsOf e) with
          | none=>simp [hc] at hz
          | some us=>
           simp only [hc,Option.bind_some] at hz
           obtain ⟨c1,c2⟩:=qym hc
           obtain ⟨cs,k1,k2,k3⟩:=read n fuel e us z.1 z.2 hp2 hz
           have hone:=qb3 k1 (qgw k2)
           have hcs:RepC (.iso (Kw w)) r cs (o + i * P.cellsOf e):=RepC.of_vals k1 fun j v hj=>by
            have h1:=c2 j v hj
            rw [add_lit,add_lit] at h1
            exact jh3 h1 (hone v (List.mem_of_getElem? hj))
           cases hag:qd2 P e with
           | true=>exact ⟨.agg cs,hcs,k3,k2,rfl⟩
           | false=>
            obtain ⟨x,rfl,hx⟩:=qrp k2 hag
            have hf:x.flat=[x]:=qbl hx
            exact ⟨x,by rw [hf]; exact hcs,by rw [hf]; exact k3,by rw [hf]; exact k2,hx⟩
         have rows:∀ (m:Nat) (q:Nat),q + m=len→∃ ys:List AVal,ys.length=m∧RepRow (.iso (Kw w)) r (P.cellsOf e) ys (o + q * P.cellsOf e)∧∀ y∈ys,zp P n e y.flat∧y.isAgg=qd2 P e:=by
          intro m
          induction m with
          | zero=>intro q _; exact ⟨[],rfl,.rnil _ _ _,by simp⟩
          | succ m ih=>
           intro q hq
           obtain ⟨ys,y1,y2,y3⟩:=ih (q + 1) (by omega)
           obtain ⟨y,z1,z2,z3⟩:=elem q (by omega)
           refine ⟨y::ys,by simp [y1],.rcons _ _ _ _ _ z2 z1 ?_,?_⟩
           ·rw [show o + q * P.cellsOf e + P.cellsOf e=o + (q + 1) * P.cellsOf e from by rw [Nat.succ_mul]; omega]; exact y2
           ·intro x hx
            rcases List.mem_cons.1 hx with rfl | hx
            ·exact z3
            ·exact y3 x hx
         obtain ⟨ys,y1,y2,y3⟩:=rows len 0 (by omega)
         rw [Nat.zero_mul,Nat.add_zero] at y2
         subst y1
         exact ⟨_,.cons _ _ _ _ (.list (P.cellsOf e) ys r o cap hk2 y2) .nil,.inr ⟨ys,rfl,by omega,y3⟩,by simp [hp1]⟩
        ·have hc0:cap=0:=by omega
         have hl0:len=0:=by omega
         subst hc0; subst hl0
         by_cases hsp:a.spot=none
         ·obtain ⟨r,o,sp⟩:=a
          simp only at hsp
          subst hsp
          exact ⟨_,.cons _ _ _ _ (.list (P.cellsOf e) [] r o 0 (by simp) (.rnil _ _ _)) .nil,.inr ⟨[],rfl,by simp,by simp⟩,by simp [hp1]⟩
         ·exact ⟨_,.cons _ _ _ _ (.lemp (P.cellsOf e) a hsp) .nil,.inr ⟨[],rfl,by simp,by simp⟩,by simp [hp1]⟩
     ·cases h
    ·cases h
   | struct fs=>
    simp only [Bool.and_eq_true,beq_iff_eq,List.all_eq_true] at hp
    obtain ⟨⟨hp1,hp2⟩,hp3⟩:=hp
    change (if vs.length=P.cellsOf t then (fs.toList.mapM fun f=>DataW.trod enc P w 0 (fun _=>true) held fuel f.type ((vs.drop f.offset).take (P.cellsOf f.type))).map fun xs=>(DataW.agg (xs.map (·.1)),xs.flatMap (·.2)) else none)=some (d,ps) at h
    ·split at h
     ·rename_i hl
      cases hm:fs.toList.mapM (fun f=>DataW.trod enc P w 0 (fun _=>true) held fuel f.type ((vs.drop f.offset).take (P.cellsOf f.type))) with
      | none=>simp [hm] at h
      | some zs=>
       obtain ⟨m1,m2⟩:=qht hm
       have hcut:=qun fs.toList 0 vs hp1 (by omega)
       obtain ⟨cs,k1,k2⟩:=qr0 (w:=w) (ty:=zp P n) fs.toList (fs.toList.map fun f=>(vs.drop f.offset).take (P.cellsOf f.type)) (by simp) (fun i f us hf hv=>by
        obtain ⟨z,_,hz⟩:=m2 i f hf
        have hus:us=(vs.drop f.offset).take (P.cellsOf f.type):=by
         rw [List.getElem?_map,hf] at hv
         simpa using hv.symm
        subst hus
        obtain ⟨cs,q1,q2,_⟩:=read n fuel f.type _ z.1 z.2 (hp3 f (List.mem_of_getElem? hf)) hz
        exact ⟨cs,q1,q2⟩)
       rw [← hcut] at k1
       exact ⟨cs,by simpa using k1,k2,by have:=k1.length; simp at this; omega⟩
     ·cases h
   | array k e=>
    simp only [Bool.and_eq_true,beq_iff_eq] at hp
    obtain ⟨hp1,hp2⟩:=hp
    change (if vs.length=P.cellsOf t then ((List.range k).mapM fun i=>DataW.trod enc P w 0 (fun _=>true) held fuel e ((vs.drop (i * P.cellsOf e)).take (P.cellsOf e))).map fun xs=>(DataW.agg (xs.map (·.1)),xs.flatMap (·.2)) else none)=some (d,ps) at h
    ·split at h
     ·rename_i hl
      cases hm:(List.range k).mapM (fun i=>DataW.trod enc P w 0 (fun _=>true) held fuel e ((vs.drop (i * P.cellsOf e)).take (P.cellsOf e))) with
      | none=>simp [hm] at h
      | some zs=>
       obtain ⟨m1,m2⟩:=qht hm
       have hcut:=q0a (P.cellsOf e) k vs (by omega)
       obtain ⟨cs,k1,k2⟩:=qpp (w:=w) (ty:=zp P n e) k ((List.range k).map fun i=>(vs.drop (i * P.cellsOf e)).take (P.cellsOf e)) (by simp) (fun i us hv=>by
        have hi:i < k:=by
         have:=(List.getElem?_eq_some_iff.1 hv).1
         simpa using this
        obtain ⟨z,_,hz⟩:=m2 i i (by rw [List.getElem?_range hi])
        have hus:us=(vs.drop (i * P.cellsOf e)).take (P.cellsOf e):=by
         rw [List.getElem?_map,List.getElem?_range hi] at hv
         simpa using hv.symm
        subst hus
        obtain ⟨cs,q1,q2,_⟩:=read n fuel e _ z.1 z.2 hp2 hz
        exact ⟨cs,q1,q2⟩)
       rw [← hcut] at k1
       exact ⟨cs,k1,k2,by have:=k1.length; omega⟩
     ·cases h
   | _=>simp at hp
end
open Go.ChangeShapes Go.WideShapes Go.ChangeAt Go.RowKit
section
variable {P:Program} {H:Type} {enc:TypeId × Value→H} {w:World}
def q3y (P:Program) (n:Nat) (t:TypeId) (x:AVal):Prop:=zp P n t x.flat∧x.isAgg=qd2 P t
def qlp (P:Program) (n:Nat):List TypeId→List AVal→Prop
 | [],xs=>xs=[]
 | t::ts,xs=>∃ y ys,xs=y::ys∧q3y P n t y∧qlp P n ts ys
theorem ja3 {n:Nat} {t:TypeId} {v:Value} {d:DataW H} {ps:List MemPlace} {base:Nat} (hp:qc8 P n t=true) (hv:Value.okWide P w .any base t v) (h:DataW.Trod enc P w 0 (fun _=>true) true t v d ps):∃ x,Rep (.iso (Kw w)) x v∧q3y P n t x:=by
 obtain ⟨fuel,hf⟩:=h
 obtain ⟨cs,k1,k2,k3⟩:=read n fuel t _ d ps hp hf
 cases hag:qd2 P t with
 | true=>
  have hvv:∃ cells,v=.agg cells:=by
   unfold qd2 at hag
   unfold Value.okWide at hv
   split at hag
   ·rename_i fs hu; rw [hu] at hv; obtain ⟨c,hc,_⟩:=hv; exact ⟨c,hc⟩
   ·rename_i a b hu; rw [hu] at hv; obtain ⟨c,hc,_⟩:=hv; exact ⟨c,hc⟩
   ·cases hag
  obtain ⟨cells,rfl⟩:=hvv
  exact ⟨.agg cs,.agg cs cells.toList k1,k2,hag.symm⟩
 | false=>
  obtain ⟨x,rfl,hx⟩:=qrp k2 hag
  have hvv:v.cells.toList=[v]:=by
   cases v with
   | agg c=>
    exfalso
    unfold Value.okWide at hv
    unfold qd2 at hag
    cases n with
    | zero=>simp [qc8] at hp
    | succ n=>
     simp only [qc8] at hp
     cases hu:P.underlying t with
     | none=>rw [hu] at hp; cases hp
     | some td=>rw [hu] at hp hv hag; cases td <;> first | (simp at hp; done) | (simp at hag; done) | (simp [Cell.okWide,hu,Cell.ok] at hv; done)
   | _=>rfl
  rw [hvv] at k1
  cases k1 with
  | cons _ _ _ _ h1 _=>exact ⟨x,h1,by rw [qbl hx]; exact k2,by rw [hx,hag]⟩
theorem q0l {n:Nat}:∀ {ts:List TypeId} {vs:List Value} {ds:List (DataW H)} {ps:List MemPlace},ts.all (qc8 P n)=true→(∀ (j:Nat) t v,ts[j]?=some t→vs[j]?=some v→∃ base,Value.okWide P w .any base t v)→DataW.TrodAll enc P w 0 (fun _=>true) true ts vs ds ps →
  ds.length=ts.length∧∃ xs,RepL (.iso (Kw w)) xs vs∧qlp P n ts xs
 | [],[],[],ps,_,_,_=>⟨rfl,[],.nil,rfl⟩
 | [],[],_::_,ps,_,_,h=>by simp [DataW.TrodAll] at h
 | [],_::_,_,ps,_,_,h=>by simp [DataW.TrodAll] at h
 | _::_,[],_,ps,_,_,h=>by simp [DataW.TrodAll] at h
 | _::_,_::_,[],ps,_,_,h=>by simp [DataW.TrodAll] at h
 | t::ts,v::vs,d::ds,ps,hp,hv,h=>by
  obtain ⟨p,q,h1,h2,_⟩:=h
  simp only [List.all_cons,Bool.and_eq_true] at hp
  obtain ⟨base,hb⟩:=hv 0 t v rfl rfl
  obtain ⟨x,k1,k2⟩:=ja3 hp.1 hb h1
  obtain ⟨hl,xs,k3,k4⟩:=q0l hp.2 (fun j t' v' ht hv'=>hv (j + 1) t' v' (by simpa using ht) (by simpa using hv')) h2
  exact ⟨by simp [hl],x::xs,.cons _ _ _ _ k1 k3,x,xs,rfl,k2,k4⟩
theorem Ext.frame {w':World} (h:Ext w w') (may:MemPlace→Prop):w.keptBut w' may:=by
 refine ⟨h.os,h.output,fun i hi=>?_⟩
 rw [h.same i hi]
 split <;> simp_all
theorem Ext.sameAt {w':World} (h:Ext w w') {p:MemPlace} (hp:p.block < w.heap.size):w.sameAt w' p:=by
 cases p with
 | cell b o=>exact World.cell?_of_block (w:=w) (h.same b hp)
 | map b=>exact h.same b hp
theorem qw3 {w':World} (hx:Ext w w') (hl:laidOutB P=true):∀ {ts:List TypeId} {vs:List Value} {ds:List (DataW H)} {ps:List MemPlace},ts.all (fun t=>P.readableRec t && decide (t < P.types.size))=true→DataW.TrodAll enc P w 0 (fun _=>true) true ts vs ds ps →
  DataW.TrodAll enc P w' 0 (fun b=>decide (b < w.heap.size)) true ts vs ds ps
 | [],[],[],ps,_,h=>h
 | [],[],_::_,ps,_,h=>by simp [DataW.TrodAll] at h
 | [],_::_,_,ps,_,h=>by simp [DataW.TrodAll] at h
 | _::_,[],_,ps,_,h=>by simp [DataW.TrodAll] at h
 | _::_,_::_,[],ps,_,h=>by simp [DataW.TrodAll] at h
 | t::ts,v::vs,d::ds,ps,hr,h=>by
  obtain ⟨p,q,h1,h2,h3⟩:=h
  simp only [List.all_cons,Bool.and_eq_true,decide_eq_true_eq] at hr
  have hlt:∀ x∈p,x.block < w.heap.size:=by obtain ⟨m,hm⟩:=h1; exact DataW.trod_lt m _ _ _ hm
  exact ⟨p,q,WideElems.Trod_stays hl hr.1.1 hr.1.2 h1 (fun x hm=>hx.sameAt (hlt x hm)) (fun x hm=>by simpa using hlt x hm),qw3 hx hl hr.2 h2,h3⟩
end
def XLe (f g:XC):Prop:=∀ c st r,f c st=some r→g c st=some r
section
variable {p:ju} {f g:XC}
theorem qvb (h:XLe f g) {af:je} {args:List AVal} {hp:qk} {r:AVal × Bool × qk} (hr:qbf f af args hp=some r):qbf g af args hp=some r:=by
 unfold qbf at *
 cases hb:Nat.ble args.length af.ntmps with
 | false=>simp [hb] at hr
 | true=>
  simp only [hb,cond_true] at hr ⊢
  split at hr
  ·rename_i st hst; rw [h _ _ _ hst]; exact hr
  ·rename_i st hst; rw [h _ _ _ hst]; exact hr
  ·cases hr
theorem qjl (h:XLe f g) {k:Nat} {args:List AVal} {hp:qk} {r:AVal × Bool × qk} (hr:jl p f k args hp=some r):jl p g k args hp=some r:=by
 unfold jl at *
 split at hr
 ·exact qvb h hr
 ·exact hr
theorem qh2 (h:XLe f g) {k:Nat} {args:List AVal} {r:AVal × Bool} (hr:qc p f k args=some r):qc p g k args=some r:=by
 unfold qc at *
 split at hr
 ·exact hr
 ·split at hr
  ·rename_i v o hh hc; rw [qjl h hc]; exact hr
  ·cases hr
theorem qxw (h:XLe f g) {b:Nat} {args:List AVal} {hp:qk} {r:AVal × qk} (hr:k9 f b args hp=some r):k9 g b args hp=some r:=by
 unfold k9 at *
 split at hr
 ·split at hr
  ·split at hr
   ·rename_i st hst
    rw [h _ _ _ hst]
    simp only []
    split at hr
    ·rename_i l1 hl1
     cases hp1:l1.pending.isNone with
     | false=>simp [hp1] at hr
     | true=>
      simp only [hp1,cond_true] at hr ⊢
      split at hr
      ·rename_i x st' hst'
       rw [h _ _ _ hst']
       exact hr
      ·cases hr
    ·cases hr
   ·cases hr
  ·cases hr
 ·cases hr
theorem qu5 (h:XLe f g) {h0:Nat} {e:Env} {hp:qk} {md:CMode} {x:qu} {l:List qu} {r:ORes} (hr:yr p f h0 e hp md x l=some r):yr p g h0 e hp md x l=some r:=by
 unfold yr at *
 split at hr
 ·cases md with
  | iso=>
   simp only [] at hr ⊢
   rename_i k first captured vs _ _
   cases hb:jk 0 (first++vs++captured) with
   | false=>rw [hb] at hr; cases hr
   | true=>
    rw [hb] at hr
    simp only [cond_true] at hr ⊢
    split at hr
    ·rename_i v o hc; rw [qh2 h hc]; exact hr
    ·cases hr
  | red=>
   simp only [] at hr ⊢
   split at hr
   ·rename_i us hf
    cases hb:jk 0 us with
    | false=>rw [hb] at hr; cases hr
    | true=>
     rw [hb] at hr
     simp only [cond_true] at hr ⊢
     split at hr
     ·rename_i v o hc; rw [qh2 h hc]; exact hr
     ·cases hr
   ·cases hr
  | frz _=>
   simp only [] at hr ⊢
   rename_i k first captured vs _ _ _
   cases he:(first++vs++captured).isEmpty with
   | true=>rw [he] at hr; exact hr
   | false=>
    rw [he] at hr
    simp only [cond_false] at hr ⊢
    cases hb:jk 0 (first++vs++captured) with
    | false=>rw [hb] at hr; cases hr
    | true=>
     rw [hb] at hr
     simp only [cond_true] at hr ⊢
     split at hr
     ·rename_i v o hc; rw [qh2 h hc]; exact hr
     ·cases hr
  | shr=>
   simp only [] at hr ⊢
   split at hr
   ·rename_i v o hh hc; rw [qjl h hc]; exact hr
   ·cases hr
 ·cases md with
  | shr=>
   simp only [] at hr ⊢
   split at hr
   ·rename_i v hh hc; rw [qxw h hc]; exact hr
   ·cases hr
  | _=>simp at hr
 ·cases hr
theorem qy7 (h:XLe f g) {h0:Nat} {al:Option (List Nat)} {e:Env} {hp:qk} {op:AOp} {r:ORes} (hr:qg p f h0 al e hp op=some r):qg p g h0 al e hp op=some r:=by
 cases op with
 | call md x l=>exact qu5 h hr
 | append rk sz b x y=>cases rk <;> exact hr
 | mkslice rk sz b z n c=>cases rk <;> exact hr
 | _=>exact hr
theorem qmu (h:XLe f g) {h0:Nat} {o:AOper} {st st':ASt} (hr:yq p f h0 o st=some st'):yq p g h0 o st=some st':=by
 unfold yq at *
 split at hr
 ·split at hr
  ·rename_i r hs; rw [qy7 h hs]; exact hr
  ·cases hr
 ·exact hr
 ·cases hr
theorem qnh (h:XLe f g) {h0:Nat}:∀ {l:List AOper} {st st':ASt},qaq p f h0 l st=some st'→qaq p g h0 l st=some st'
 | [],_,_,hr=>hr
 | o::l,st,st',hr=>by
  simp only [qaq] at hr ⊢
  split at hr
  ·rename_i s1 h1; rw [qmu h h1]; exact qnh h hr
  ·cases hr
theorem qnc (h:XLe f g) {na:Nat} {l:List AOper} {k:Option (List Nat)} {st:ASt} {r:ji × ASt} (hr:qax p f na l k st=some r):qax p g na l k st=some r:=by
 unfold qax at *
 split at hr
 ·rename_i s1 h1; rw [qnh h h1]; exact hr
 ·cases hr
theorem qpt (h:XLe f g) {x:qu} {ps:List Nat} {a b:ACode} {st:ASt} {r:ji × ASt} (hr:qbh p f x ps a b st=some r):qbh p g x ps a b st=some r:=by
 unfold qbh at *
 cases hn:(zg a && zg b) with
 | false=>simp [hn] at hr
 | true=>
  simp only [hn,cond_true] at hr ⊢
  split at hr
  ·split at hr
   ·rename_i v o hh hc; rw [qjl h hc]; exact hr
   ·cases hr
  ·cases hr
end
theorem qqw (p:ju):∀ n,XLe (jn p n) (jn p (n + 1))
 | 0=>fun c st r h=>by simp [jn] at h
 | n + 1=>by
  have ih:=qqw p n
  intro c st r h
  cases c with
  | region na l k=>simp only [jn] at h ⊢; exact qnc ih h
  | rangeFunc f ps a b=>simp only [jn] at h ⊢; exact qpt ih h
  | seq a b=>
   rw [jn] at h ⊢
   split at h
   ·rename_i st1 h1
    rw [ih _ _ _ h1]; exact ih _ _ _ h
   ·rename_i hne
    rw [ih _ _ _ h]
    split
    ·rename_i st1 h1; cases h1; exact absurd h (hne _)
    ·rfl
  | cond c a b=>
   rw [jn] at h ⊢
   split at h
   ·rename_i t ht
    cases t
    ·simp only [cond_false] at h ⊢; exact ih _ _ _ h
    ·simp only [cond_true] at h ⊢; exact ih _ _ _ h
   ·cases h
  | block id b=>
   rw [jn] at h ⊢
   split at h
   ·rename_i id' st1 h1
    rw [ih _ _ _ h1]; exact h
   ·rename_i hne
    rw [ih _ _ _ h]
    split
    ·rename_i id' st1 h1; cases h1; exact absurd h (hne _ _)
    ·rfl
  | loop b=>
   rw [jn] at h ⊢
   split at h
   ·rename_i st1 h1
    rw [ih _ _ _ h1]; exact ih _ _ _ h
   ·rename_i hne
    rw [ih _ _ _ h]
    split
    ·rename_i st1 h1; cases h1; exact absurd h (hne _)
    ·rfl
  | _=>exact h
theorem qbx (p:ju) {n m:Nat} (h:n≤m):XLe (jn p n) (jn p m):=by
 induction h with
 | refl=>exact fun _ _ _ h=>h
 | step _ ih=>exact fun c st r hr=>qqw p _ c st r (ih c st r hr)
open Classical in
noncomputable def X (p:ju):XC:=fun c st=>if h:∃ r n,jn p n c st=some r then some (Classical.choose h) else none
theorem yv {p:ju} {c:ACode} {st:ASt} {r:ji × ASt}:X p c st=some r↔∃ n,jn p n c st=some r:=by
 unfold X
 constructor
 ·intro h
  split at h
  ·rename_i hh
   cases h
   exact Classical.choose_spec hh
  ·cases h
 ·rintro ⟨n,hn⟩
  have hh:∃ r n,jn p n c st=some r:=⟨r,n,hn⟩
  rw [dif_pos hh]
  obtain ⟨m,hm⟩:=Classical.choose_spec hh
  have h1:=qbx p (Nat.le_max_left n m) _ _ _ hn
  have h2:=qbx p (Nat.le_max_right n m) _ _ _ hm
  rw [h1] at h2
  exact h2.symm
theorem qgu {p:ju} (n:Nat):XLe (jn p n) (X p):=fun _ _ _ h=>yv.2 ⟨n,h⟩
section
variable {p:ju}
theorem qx3 {af:je} {args:List AVal} {hp:qk} {r:AVal × Bool × qk} (hr:qbf (X p) af args hp=some r):∃ n,qbf (jn p n) af args hp=some r:=by
 have hr0:=hr
 unfold qbf at hr
 cases hb:Nat.ble args.length af.ntmps with
 | false=>simp [hb] at hr
 | true=>
  simp only [hb,cond_true] at hr
  have key:∀ {r'},X p af.body ⟨qc9 0 args,hp⟩=some r'→∃ n,qbf (jn p n) af args hp=some r:=by
   intro r' h
   obtain ⟨n,hn⟩:=yv.1 h
   refine ⟨n,?_⟩
   unfold qbf
   rw [hb,hn]
   rw [h] at hr
   exact hr
  split at hr
  ·rename_i st hst; exact key hst
  ·rename_i st hst; exact key hst
  ·cases hr
theorem qlv {k:Nat} {args:List AVal} {hp:qk} {r:AVal × Bool × qk} (hr:jl p (X p) k args hp=some r):∃ n,jl p (jn p n) k args hp=some r:=by
 unfold jl at *
 cases h:p.fns k with
 | none=>rw [h] at hr; exact ⟨0,hr⟩
 | some f=>rw [h] at hr; exact qx3 hr
theorem qfv {k:Nat} {args:List AVal} {r:AVal × Bool} (hr:qc p (X p) k args=some r):∃ n,qc p (jn p n) k args=some r:=by
 unfold qc at *
 cases h:p.prims k with
 | some f=>rw [h] at hr; exact ⟨0,hr⟩
 | none=>
  rw [h] at hr
  simp only [] at hr ⊢
  split at hr
  ·rename_i v o hh hc
   obtain ⟨n,hn⟩:=qlv hc
   exact ⟨n,by rw [hn]; exact hr⟩
  ·cases hr
theorem qzi {b:Nat} {args:List AVal} {hp:qk} {r:AVal × qk} (hr:k9 (X p) b args hp=some r):∃ n,k9 (jn p n) b args hp=some r:=by
 unfold k9 at hr
 split at hr
 ·rename_i l hl
  split at hr
  ·rename_i e hpn hse
   split at hr
   ·rename_i st hst
    split at hr
    ·rename_i l1 hl1
     cases hp1:l1.pending.isNone with
     | false=>simp [hp1] at hr
     | true=>
      simp only [hp1,cond_true] at hr
      split at hr
      ·rename_i x st' hst'
       obtain ⟨n,hn⟩:=yv.1 hst
       obtain ⟨m,hm⟩:=yv.1 hst'
       refine ⟨max n m,?_⟩
       have h1:=qbx p (Nat.le_max_left n m) _ _ _ hn
       have h2:=qbx p (Nat.le_max_right n m) _ _ _ hm
       simp only [k9,hl,hpn,hse,h1,hl1,hp1,cond_true,h2]
       exact hr
      ·cases hr
    ·cases hr
   ·cases hr
  ·cases hr
 ·cases hr
theorem qwk {h0:Nat} {e:Env} {hp:qk} {md:CMode} {x:qu} {l:List qu} {r:ORes} (hr:yr p (X p) h0 e hp md x l=some r):∃ n,yr p (jn p n) h0 e hp md x l=some r:=by
 unfold yr at hr
 split at hr
 ·rename_i k first captured vs e1 e2
  cases md with
  | iso=>
   simp only [] at hr
   cases hb:jk 0 (first++vs++captured) with
   | false=>rw [hb] at hr; cases hr
   | true=>
    rw [hb] at hr
    simp only [cond_true] at hr
    split at hr
    ·rename_i v o hc
     obtain ⟨n,hn⟩:=qfv hc
     refine ⟨n,?_⟩
     simp only [yr,e1,e2,hn]
     rw [hb]
     exact hr
    ·cases hr
  | red=>
   simp only [] at hr
   split at hr
   ·rename_i us hf
    cases hb:jk 0 us with
    | false=>rw [hb] at hr; cases hr
    | true=>
     rw [hb] at hr
     simp only [cond_true] at hr
     split at hr
     ·rename_i v o hc
      obtain ⟨n,hn⟩:=qfv hc
      refine ⟨n,?_⟩
      simp only [yr,e1,e2,hf,hn]
      rw [hb]
      exact hr
     ·cases hr
   ·cases hr
  | frz _=>
   simp only [] at hr
   cases he:(first++vs++captured).isEmpty with
   | true=>exact ⟨0,by simp only [yr,e1,e2,he]; rw [he] at hr; exact hr⟩
   | false=>
    rw [he] at hr
    simp only [cond_false] at hr
    cases hb:jk 0 (first++vs++captured) with
    | false=>rw [hb] at hr; cases hr
    | true=>
     rw [hb] at hr
     simp only [cond_true] at hr
     split at hr
     ·rename_i v o hc
      obtain ⟨n,hn⟩:=qfv hc
      refine ⟨n,?_⟩
      simp only [yr,e1,e2,hn]
      rw [he,hb]
      exact hr
     ·cases hr
  | shr=>
   simp only [] at hr
   split at hr
   ·rename_i v o hh hc
    obtain ⟨n,hn⟩:=qlv hc
    refine ⟨n,?_⟩
    simp only [yr,e1,e2,hn]
    exact hr
   ·cases hr
 ·rename_i b vs e1 e2
  cases md with
  | shr=>
   simp only [] at hr
   split at hr
   ·rename_i v hh hc
    obtain ⟨n,hn⟩:=qzi hc
    refine ⟨n,?_⟩
    simp only [yr,e1,e2,hn]
    exact hr
   ·cases hr
  | _=>simp at hr
 ·cases hr
theorem q1h {h0:Nat} {al:Option (List Nat)} {e:Env} {hp:qk} {op:AOp} {r:ORes} (hr:qg p (X p) h0 al e hp op=some r):∃ n,qg p (jn p n) h0 al e hp op=some r:=by
 cases op with
 | call md x l=>exact qwk hr
 | append rk sz b x y=>cases rk <;> exact ⟨0,hr⟩
 | mkslice rk sz b z n c=>cases rk <;> exact ⟨0,hr⟩
 | _=>exact ⟨0,hr⟩
theorem qxr {h0:Nat} {o:AOper} {st st':ASt} (hr:yq p (X p) h0 o st=some st'):∃ n,yq p (jn p n) h0 o st=some st':=by
 unfold yq at *
 cases hg:qbc st.env o.guard with
 | none=>simp [hg] at hr
 | some b=>
  rw [hg] at hr
  cases b with
  | false=>exact ⟨0,hr⟩
  | true=>
   simp only [] at hr ⊢
   split at hr
   ·rename_i r hs
    obtain ⟨n,hn⟩:=q1h hs
    exact ⟨n,by rw [hn]; exact hr⟩
   ·cases hr
theorem qw6 {h0:Nat}:∀ {l:List AOper} {st st':ASt},qaq p (X p) h0 l st=some st'→∃ n,qaq p (jn p n) h0 l st=some st'
 | [],_,_,hr=>⟨0,hr⟩
 | o::l,st,st',hr=>by
  simp only [qaq] at hr
  split at hr
  ·rename_i s1 h1
   obtain ⟨n,hn⟩:=qxr h1
   obtain ⟨m,hm⟩:=qw6 hr
   refine ⟨max n m,?_⟩
   simp only [qaq]
   rw [qmu (qbx p (Nat.le_max_left n m)) hn]
   exact qnh (qbx p (Nat.le_max_right n m)) hm
  ·cases hr
theorem qzt {na:Nat} {l:List AOper} {k:Option (List Nat)} {st:ASt} {r:ji × ASt} (hr:qax p (X p) na l k st=some r):∃ n,qax p (jn p n) na l k st=some r:=by
 unfold qax at hr
 split at hr
 ·rename_i s1 h1
  obtain ⟨n,hn⟩:=qw6 h1
  exact ⟨n,by unfold qax; rw [hn]; exact hr⟩
 ·cases hr
theorem q07 {x:qu} {ps:List Nat} {a b:ACode} {st:ASt} {r:ji × ASt} (hr:qbh p (X p) x ps a b st=some r):∃ n,qbh p (jn p n) x ps a b st=some r:=by
 unfold qbh at hr
 cases hn:(zg a && zg b) with
 | false=>simp [hn] at hr
 | true=>
  simp only [hn,cond_true] at hr
  split at hr
  ·rename_i k first captured hev
   split at hr
   ·rename_i v o hh hc
    obtain ⟨n,hn'⟩:=qlv hc
    refine ⟨n,?_⟩
    unfold qbh
    rw [hn,hev]
    simp only [cond_true]
    rw [hn']
    exact hr
   ·cases hr
  ·cases hr
theorem qfj {α:Type} {x y:Option α} (h1:∀ r,x=some r→y=some r) (h2:∀ r,y=some r→x=some r):x=y:=by
 cases x with
 | none=>
  cases y with
  | none=>rfl
  | some r=>exact (h2 r rfl)
 | some r=>exact (h1 r rfl).symm
theorem jfy {st:ASt}:X p .skip st=some (.normal,st):=yv.2 ⟨1,rfl⟩
theorem jfm {id:Nat} {st:ASt}:X p (.exit id) st=some (.exit id,st):=yv.2 ⟨1,rfl⟩
theorem jlm {st:ASt}:X p .ret st=some (.ret,st):=yv.2 ⟨1,rfl⟩
theorem q6q {na:Nat} {l:List AOper} {k:Option (List Nat)} {st:ASt}:X p (.region na l k) st=qax p (X p) na l k st:=by
 refine qfj (fun r h=>?_) (fun r h=>?_)
 ·obtain ⟨n,hn⟩:=yv.1 h
  cases n with
  | zero=>simp [jn] at hn
  | succ n=>simp only [jn] at hn; exact qnc (qgu n) hn
 ·obtain ⟨n,hn⟩:=qzt h
  exact yv.2 ⟨n + 1,by simp only [jn]; exact hn⟩
theorem qop {x:qu} {ps:List Nat} {a b:ACode} {st:ASt}:X p (.rangeFunc x ps a b) st=qbh p (X p) x ps a b st:=by
 refine qfj (fun r h=>?_) (fun r h=>?_)
 ·obtain ⟨n,hn⟩:=yv.1 h
  cases n with
  | zero=>simp [jn] at hn
  | succ n=>simp only [jn] at hn; exact qpt (qgu n) hn
 ·obtain ⟨n,hn⟩:=q07 h
  exact yv.2 ⟨n + 1,by simp only [jn]; exact hn⟩
theorem jip {a b:ACode} {st:ASt}:X p (.seq a b) st=match X p a st with
  | some (.normal,st')=>X p b st'
  | r=>r:=by
 refine qfj (fun r h=>?_) (fun r h=>?_)
 ·obtain ⟨n,hn⟩:=yv.1 h
  cases n with
  | zero=>simp [jn] at hn
  | succ n=>
   rw [jn] at hn
   split at hn
   ·rename_i st1 h1; rw [qgu n _ _ _ h1]; exact qgu n _ _ _ hn
   ·rename_i hne
    rw [qgu n _ _ _ hn]
    split
    ·rename_i st1 h1; cases h1; exact absurd hn (hne _)
    ·rfl
 ·split at h
  ·rename_i st1 h1
   obtain ⟨n,hn⟩:=yv.1 h1
   obtain ⟨m,hm⟩:=yv.1 h
   refine yv.2 ⟨max n m + 1,?_⟩
   rw [jn,qbx p (Nat.le_max_left n m) _ _ _ hn]
   exact qbx p (Nat.le_max_right n m) _ _ _ hm
  ·rename_i hne
   obtain ⟨n,hn⟩:=yv.1 h
   refine yv.2 ⟨n + 1,?_⟩
   rw [jn,hn]
   split
   ·rename_i st1 h1; cases h1; exact absurd h (hne _)
   ·rfl
theorem jc8 {c:qu} {a b:ACode} {st:ASt}:X p (.cond c a b) st=match ql st.env c with
  | some (.bool t)=>bif t then X p a st else X p b st
  | _=>none:=by
 refine qfj (fun r h=>?_) (fun r h=>?_)
 ·obtain ⟨n,hn⟩:=yv.1 h
  cases n with
  | zero=>simp [jn] at hn
  | succ n=>
   rw [jn] at hn
   split at hn
   ·rename_i t ht
    rw [ht]
    cases t
    ·simp only [cond_false] at hn ⊢; exact qgu n _ _ _ hn
    ·simp only [cond_true] at hn ⊢; exact qgu n _ _ _ hn
   ·cases hn
 ·split at h
  ·rename_i t ht
   cases t
   ·simp only [cond_false] at h
    obtain ⟨n,hn⟩:=yv.1 h
    exact yv.2 ⟨n + 1,by rw [jn,ht]; exact hn⟩
   ·simp only [cond_true] at h
    obtain ⟨n,hn⟩:=yv.1 h
    exact yv.2 ⟨n + 1,by rw [jn,ht]; exact hn⟩
  ·cases h
theorem jan {id:Nat} {b:ACode} {st:ASt}:X p (.block id b) st=match X p b st with
  | some (.exit id',st')=>bif Nat.beq id' id then some (.normal,st') else some (.exit id',st')
  | r=>r:=by
 refine qfj (fun r h=>?_) (fun r h=>?_)
 ·obtain ⟨n,hn⟩:=yv.1 h
  cases n with
  | zero=>simp [jn] at hn
  | succ n=>
   rw [jn] at hn
   split at hn
   ·rename_i id' st1 h1; rw [qgu n _ _ _ h1]; exact hn
   ·rename_i hne
    rw [qgu n _ _ _ hn]
    split
    ·rename_i id' st1 h1; cases h1; exact absurd hn (hne _ _)
    ·rfl
 ·split at h
  ·rename_i id' st1 h1
   obtain ⟨n,hn⟩:=yv.1 h1
   exact yv.2 ⟨n + 1,by rw [jn,hn]; exact h⟩
  ·rename_i hne
   obtain ⟨n,hn⟩:=yv.1 h
   refine yv.2 ⟨n + 1,?_⟩
   rw [jn,hn]
   split
   ·rename_i id' st1 h1; cases h1; exact absurd h (hne _ _)
   ·rfl
theorem jfl {b:ACode} {st:ASt}:X p (.loop b) st=match X p b st with
  | some (.normal,st')=>X p (.loop b) (gc st.heap.length st')
  | r=>r:=by
 refine qfj (fun r h=>?_) (fun r h=>?_)
 ·obtain ⟨n,hn⟩:=yv.1 h
  cases n with
  | zero=>simp [jn] at hn
  | succ n=>
   rw [jn] at hn
   split at hn
   ·rename_i st1 h1; rw [qgu n _ _ _ h1]; exact qgu n _ _ _ hn
   ·rename_i hne
    rw [qgu n _ _ _ hn]
    split
    ·rename_i st1 h1; cases h1; exact absurd hn (hne _)
    ·rfl
 ·split at h
  ·rename_i st1 h1
   obtain ⟨n,hn⟩:=yv.1 h1
   obtain ⟨m,hm⟩:=yv.1 h
   refine yv.2 ⟨max n m + 1,?_⟩
   rw [jn,qbx p (Nat.le_max_left n m) _ _ _ hn]
   exact qbx p (Nat.le_max_right n m) _ _ _ hm
  ·rename_i hne
   obtain ⟨n,hn⟩:=yv.1 h
   refine yv.2 ⟨n + 1,?_⟩
   rw [jn,hn]
   split
   ·rename_i st1 h1; cases h1; exact absurd h (hne _)
   ·rfl
theorem jc6 {sz:Nat} {st:ASt}:X p (.grow sz) st=match jp 0 st.env,jp 1 st.env with
   | some (.list true _ _,_),some (.int .i64 (.ofNat m),_)=>bif Nat.blt 0 m && Nat.ble m 1073741824 then some (.normal,{ st with env:=[(0,.list false sz [],true)] }) else none
   | _,_=>none:=by
 refine qfj (fun r h=>?_) (fun r h=>?_)
 ·obtain ⟨n,hn⟩:=yv.1 h
  cases n with
  | zero=>simp [jn] at hn
  | succ n=>simp only [jn] at hn; exact hn
 ·exact yv.2 ⟨1,by simp only [jn]; exact h⟩
theorem qp6 {P:Program} (hp':ProgOk P p) {k:Nat} {args:List AVal} {v:AVal} {ow:Bool} (h:qc p (X p) k args=some (v,ow)) (hb:jk 0 args=true):qac P k args v ow:=by
 obtain ⟨n,hn⟩:=qfv h
 exact q0n hp' hn hb
end
inductive GCode where
 | code (c:ACode)
 | seq (a b:GCode)
 | cond (c:qu) (a b:GCode)
 | block (id:Nat) (b:GCode)
 | loop (b:GCode)
 | thaw (s:Nat) (c:GCode)
 | shut (s sz:Nat) (c:GCode)
def GCode.erase:GCode→ACode
 | .code c=>c
 | .seq a b=>.seq a.erase b.erase
 | .cond c a b=>.cond c a.erase b.erase
 | .block id b=>.block id b.erase
 | .loop b=>.loop b.erase
 | .thaw _ c=>c.erase
 | .shut _ _ c=>c.erase
def StI (P:Program) (w0:World) (K:Nat→Nat→Option Value) (nt:Nat) (st:ASt) (a:Act) (w:World):Prop:=
 a.tmps.size=nt∧∃ C' ω',Marks C' w0.heap.size a.defers∧MInv P C' ω' w0 (.iso K) st.heap w∧EnvRel C' ω' w w0.heap.size st.env a.tmps
theorem StI.gc {P:Program} {w0:World} {K:Nat→Nat→Option Value} {nt n:Nat} {st:ASt} {a:Act} {w:World} (h:StI P w0 K nt st a w):StI P w0 K nt (Abs.gc n st) a w:=by
 obtain ⟨h1,C',ω',h2,h3,h4⟩:=h
 unfold Abs.gc
 cases hb:Nat.ble st.heap.length n with
 | true=>exact ⟨h1,C',ω',h2,h3,h4⟩
 | false=>
  simp only [cond_false]
  cases hb2:(y9 n st.env && jt n (st.heap.take n)) with
  | false=>exact ⟨h1,C',ω',h2,h3,h4⟩
  | true=>
   simp only [cond_true]
   simp only [Bool.and_eq_true] at hb2
   have hn:n≤st.heap.length:=by
    rcases Nat.lt_or_ge n st.heap.length with h | h
    ·omega
    ·rw [Nat.ble_eq_true_of_le h] at hb; cases hb
   exact ⟨h1,C'.cut n,ω',⟨h2.choose,h2.choose_spec.1,h2.choose_spec.2.1,h2.choose_spec.2.2⟩,h3.gc hn hb2.2 (fun b r h=>by cases h),h4.cut hb2.1⟩
section
variable {P:Program}
theorem Tabs.table {w:World} (h:Tabs P w) {g:Nat} (hg:P.globalNamed qbb=some g):Lib.TabIs P w qbb .u64 Lib.pow10Tab:=(h g (.inl hg)).2.1 hg
theorem Tabs.length {w:World} (h:Tabs P w) {g:Nat} (hg:P.globalNamed qff=some g):∃ m,w.cell? ⟨g,0,Option.none⟩=some (.int .i64 m):=(h g (.inr (.inl hg))).2.2.1 hg
theorem qt2 {k:Nat} {args:List AVal} {v:AVal} (h:∀ (K:Nat→Nat→Option Value) (w:World) (vs:List Value),Tabs P w→(∀ r o u,K r o=some u→w.cell? ⟨r,o,none⟩=some u)→RepL (.iso K) args vs →
  ∃ u,Rep (.iso K) v u∧Calls P k ⟨vs⟩ w fun e w'=>e=.returned u∧Ext w w'):qac P k args v false:=by
 intro K w vs ht h1 h2 hr
 obtain ⟨u,hu,hc⟩:=h K w vs ht h1 hr
 refine callsIn_wide.2 (hc.mono ?_)
 rintro e w' ⟨rfl,hx⟩
 exact ⟨u,K,rfl,hx,fun _ _ _ h=>h,fun _ _ _=>rfl,fun r o x hk=>hx.cell (h1 r o x hk),h2,hu,fun h=>by cases h⟩
end
open Go
def qho:List UInt8→List UInt8→Bool
 | [],[]=>true
 | a::l,b::m=>bif Nat.beq a.toNat b.toNat then qho l m else false
 | _,_=>false
theorem qm0:∀ {l m:List UInt8},qho l m=true→l=m
 | [],[],_=>rfl
 | [],_::_,h=>by simp [qho] at h
 | _::_,[],h=>by simp [qho] at h
 | a::l,b::m,h=>by
  simp only [qho,Bool.cond_eq_ite] at h
  split at h
  ·next hb=>rw [UInt8.toNat_inj.1 (Nat.eq_of_beq_eq_true hb),qm0 h]
  ·exact absurd h (by simp)
def qvt:Int→Int→Bool
 | .ofNat a,.ofNat b=>Nat.beq a b
 | .negSucc a,.negSucc b=>Nat.beq a b
 | _,_=>false
theorem qyz:∀ {a b:Int},qvt a b=true→a=b
 | .ofNat _,.ofNat _,h=>by rw [Nat.eq_of_beq_eq_true h]
 | .negSucc _,.negSucc _,h=>by rw [Nat.eq_of_beq_eq_true h]
 | .ofNat _,.negSucc _,h=>by simp [qvt] at h
 | .negSucc _,.ofNat _,h=>by simp [qvt] at h
mutual
def eqV:AVal→AVal→Bool
 | .bool a,.bool b=>a == b
 | .int k a,.int k' b=>bif decide (k=k') then qvt a b else false
 | .str a,.str b=>qho a b
 | .list a n xs,.list b m ys=>bif a == b then bif Nat.beq n m then eqL xs ys else false else false
 | .agg xs,.agg ys=>eqL xs ys
 | .tup xs,.tup ys=>eqL xs ys
 | _,_=>false
def eqL:List AVal→List AVal→Bool
 | [],[]=>true
 | a::l,b::m=>bif eqV a b then eqL l m else false
 | _,_=>false
end
mutual
theorem q4n:∀ {a b:AVal},eqV a b=true→a=b:=by
 intro a b h
 match a,b with
 | .bool _,.bool _=>simp only [eqV,beq_iff_eq] at h; rw [h]
 | .int k a,.int k' b=>
  simp only [eqV,Bool.cond_eq_ite,decide_eq_true_eq] at h
  split at h
  ·next hk=>rw [hk,qyz h]
  ·exact absurd h (by simp)
 | .str _,.str _=>simp only [eqV] at h; rw [qm0 h]
 | .list a n xs,.list b m ys=>
  simp only [eqV,Bool.cond_eq_ite,beq_iff_eq] at h
  split at h
  ·next h1=>
   split at h
   ·next h2=>rw [h1,Nat.eq_of_beq_eq_true h2,qf5 h]
   ·exact absurd h (by simp)
  ·exact absurd h (by simp)
 | .agg _,.agg _=>simp only [eqV] at h; rw [qf5 h]
 | .tup _,.tup _=>simp only [eqV] at h; rw [qf5 h]
 | .bool _,.int .. | .bool _,.str _ | .bool _,.list .. | .bool _,.agg _ | .bool _,.tup _=>simp [eqV] at h
 | .int ..,.bool _ | .int ..,.str _ | .int ..,.list .. | .int ..,.agg _ | .int ..,.tup _=>simp [eqV] at h
 | .str _,.bool _ | .str _,.int .. | .str _,.list .. | .str _,.agg _ | .str _,.tup _=>simp [eqV] at h
 | .list ..,.bool _ | .list ..,.int .. | .list ..,.str _ | .list ..,.agg _ | .list ..,.tup _=>simp [eqV] at h
 | .agg _,.bool _ | .agg _,.int .. | .agg _,.str _ | .agg _,.list .. | .agg _,.tup _=>simp [eqV] at h
 | .tup _,.bool _ | .tup _,.int .. | .tup _,.str _ | .tup _,.list .. | .tup _,.agg _=>simp [eqV] at h
 | .ms ..,_ | .ptr ..,_ | .vptr _,_ | .nilptr,_ | .map _,_ | .nilmap,_ | .fn ..,_ | .nilfn,_ | .undef,_=>simp [eqV] at h
 | .bool _,.ms .. | .bool _,.ptr .. | .bool _,.vptr _ | .bool _,.nilptr | .bool _,.map _ | .bool _,.nilmap | .bool _,.fn .. | .bool _,.nilfn | .bool _,.undef=>simp [eqV] at h
 | .int ..,.ms .. | .int ..,.ptr .. | .int ..,.vptr _ | .int ..,.nilptr | .int ..,.map _ | .int ..,.nilmap | .int ..,.fn .. | .int ..,.nilfn | .int ..,.undef=>simp [eqV] at h
 | .str ..,.ms .. | .str ..,.ptr .. | .str ..,.vptr _ | .str ..,.nilptr | .str ..,.map _ | .str ..,.nilmap | .str ..,.fn .. | .str ..,.nilfn | .str ..,.undef=>simp [eqV] at h
 | .list ..,.ms .. | .list ..,.ptr .. | .list ..,.vptr _ | .list ..,.nilptr | .list ..,.map _ | .list ..,.nilmap | .list ..,.fn .. | .list ..,.nilfn | .list ..,.undef=>simp [eqV] at h
 | .agg ..,.ms .. | .agg ..,.ptr .. | .agg ..,.vptr _ | .agg ..,.nilptr | .agg ..,.map _ | .agg ..,.nilmap | .agg ..,.fn .. | .agg ..,.nilfn | .agg ..,.undef=>simp [eqV] at h
 | .tup ..,.ms .. | .tup ..,.ptr .. | .tup ..,.vptr _ | .tup ..,.nilptr | .tup ..,.map _ | .tup ..,.nilmap | .tup ..,.fn .. | .tup ..,.nilfn | .tup ..,.undef=>simp [eqV] at h
theorem qf5:∀ {l m:List AVal},eqL l m=true→l=m:=by
 intro l m h
 match l,m with
 | [],[]=>rfl
 | [],_::_=>simp [eqL] at h
 | _::_,[]=>simp [eqL] at h
 | a::l,b::m=>
  simp only [eqL,Bool.cond_eq_ite] at h
  split at h
  ·next h1=>rw [q4n h1,qf5 h]
  ·exact absurd h (by simp)
end
abbrev Row:=List AVal × AVal × Bool
def qld (args:List AVal):List Row→Option (AVal × Bool)
 | []=>none
 | r::l=>bif eqL r.1 args then some r.2 else qld args l
theorem qp3 {args:List AVal} {x:AVal × Bool}:∀ {l:List Row},qld args l=some x→(args,x)∈l
 | [],h=>by simp [qld] at h
 | r::l,h=>by
  simp only [qld,Bool.cond_eq_ite] at h
  split at h
  ·next hb=>
   simp only [Option.some.injEq] at h
   rw [← qf5 hb,← h]
   exact List.mem_cons_self ..
  ·exact List.mem_cons_of_mem _ (qp3 h)
def qlu (tab:Nat→Option (List Row)):qg8:=fun k=>(tab k).map fun l args=>qld args l
def q18 (P:Program) (tab:Nat→Option (List Row)):Prop:=
 ∀ k l,tab k=some l→∀ r∈l,qac P k r.1 r.2.1 r.2.2
def qhs:List (Nat × List Row)→Nat→Option (List Row)
 | [],_=>none
 | (k,l)::t,n=>bif Nat.beq k n then some l else qhs t n
def qte (P:Program) (k:Nat):List Row→Prop
 | []=>True
 | r::l=>qac P k r.1 r.2.1 r.2.2∧qte P k l
def q58 (P:Program):List (Nat × List Row)→Prop
 | []=>True
 | (k,l)::t=>qte P k l∧q58 P t
theorem qxn {P:Program} {k:Nat}:∀ {l:List Row},qte P k l→∀ r∈l,qac P k r.1 r.2.1 r.2.2
 | r::l,h,x,hx=>by
  cases hx with
  | head=>exact h.1
  | tail _ hx=>exact qxn h.2 x hx
theorem q4a {P:Program}:∀ {t:List (Nat × List Row)},q58 P t→q18 P (qhs t)
 | (j,m)::t,h,k,l,hk=>by
  simp only [qhs,Bool.cond_eq_ite] at hk
  split at hk
  ·next hb=>
   rw [Nat.eq_of_beq_eq_true hb] at h
   simp only [Option.some.injEq] at hk
   subst hk
   exact qxn h.1
  ·exact q4a h.2 k l hk
theorem q1e {P:Program} {t:FTree} {tab:Nat→Option (List Row)} {M:q3h} (h:ProgOk P (t.prog (fun _=>none) M)) (ht:q18 P tab) (he:∀ k l,tab k=some l→Enters P k):ProgOk P (t.prog (qlu tab) M) where
 fn:=h.fn
 prim:=by
  intro k f hf
  simp only [FTree.prog,qlu,Option.map_eq_some_iff] at hf
  obtain ⟨l,hl,rfl⟩:=hf
  refine ⟨he k l hl,fun args v o hv _ _=>ht k l hl _ (qp3 hv)⟩
 mixed:=h.mixed
 maps:=h.maps
theorem q12 {P:Program} {p:ju} (h:ProgOk P p) {n k b:Nat} {ow:Bool} {h1:qk} {es:List (AVal × AVal)} (hr:jl p (zm p n) k [] []=some (.map b,ow,h1)) (hb:h1[b]?=some (.map es)) (he:qap 0 es=true):Enters P k∧qs8 P k es:=
 q1x h (CodeOk.of' (qty h n).1) (by rw [← qnk]; exact hr) hb he
theorem zt {P:Program} {p:ju} (h:ProgOk P p) {n k:Nat} {args:List AVal} {v:AVal} {o:Bool} (hr:qc p (zm p n) k args=some (v,o)) (hb:jk 0 args=true:=by rfl):qac P k args v o:=
 q0n h (q4c hr) hb
end Go.Abs
