/-
  The executor for the kernel's run: values are brought to their ends at each region's end. It computes what the executor computes.
-/
import Derived.Test.YtnjngdcbkkonnaaGreatDoorAbsG
import Derived.WalkKit
import Derived.ProofKit
import Derived.OpenShut
import Derived.ShutString
import Derived.ChangeOld
import Derived.Below
import Derived.Carry
import Derived.KernelRfl
import Derived.CallsIn
set_option linter.unusedVariables false
set_option linter.unusedSimpArgs false
namespace Go.Abs
def forceNat {α:Type} (n:Nat) (f:Nat→α):α:=match n with
 | 0=>f 0
 | m + 1=>f (Nat.succ m)
def forceInt {α:Type} (n:Int) (f:Int→α):α:=match n with
 | .ofNat a=>forceNat a fun a=>f (.ofNat a)
 | .negSucc a=>forceNat a fun a=>f (.negSucc a)
def forceBool {α:Type} (b:Bool) (f:Bool→α):α:=match b with
 | true=>f true
 | false=>f false
def forceKind {α:Type} (k:IntKind) (f:IntKind→α):α:=match k with
 | .i8=>f .i8 | .i16=>f .i16 | .i32=>f .i32 | .i64=>f .i64 | .u8=>f .u8 | .u16=>f .u16 | .u32=>f .u32 | .u64=>f .u64
def forceBytes {α:Type}:List UInt8→(List UInt8→α)→α
 | [],f=>f []
 | c::s,f=>forceBytes s fun s=>f (c::s)
def forceFn {α:Type} (g:Fn) (f:Fn→α):α:=match g with
 | .func k=>forceNat k fun k=>f (.func k)
 | .yield k=>forceNat k fun k=>f (.yield k)
 | g=>f g
mutual
def forceV {α:Type}:AVal→(AVal→α)→α
 | .bool b,f=>forceBool b fun b=>f (.bool b)
 | .int k n,f=>forceKind k fun k=>forceInt n fun n=>f (.int k n)
 | .str s,f=>forceBytes s fun s=>f (.str s)
 | .list b sz xs,f=>forceBool b fun b=>forceNat sz fun sz=>forceL xs fun xs=>f (.list b sz xs)
 | .ms b o l,f=>forceNat b fun b=>forceNat o fun o=>forceNat l fun l=>f (.ms b o l)
 | .ptr b o,f=>forceNat b fun b=>forceNat o fun o=>f (.ptr b o)
 | .vptr v,f=>forceV v fun v=>f (.vptr v)
 | .nilptr,f=>f .nilptr
 | .map b,f=>forceNat b fun b=>f (.map b)
 | .nilmap,f=>f .nilmap
 | .fn g a c,f=>forceFn g fun g=>forceL a fun a=>forceL c fun c=>f (.fn g a c)
 | .nilfn,f=>f .nilfn
 | .agg cs,f=>forceL cs fun cs=>f (.agg cs)
 | .tup cs,f=>forceL cs fun cs=>f (.tup cs)
 | .undef,f=>f .undef
 | .any,f=>f .any
def forceL {α:Type}:List AVal→(List AVal→α)→α
 | [],f=>f []
 | x::xs,f=>forceV x fun x=>forceL xs fun xs=>f (x::xs)
end
def forceEnv {α:Type}:Env→(Env→α)→α
 | [],f=>f []
 | (t,v,o)::e,f=>forceNat t fun t=>forceV v fun v=>forceBool o fun o=>forceEnv e fun e=>f ((t,v,o)::e)
def forceCells {α:Type}:List (AVal × Bool)→(List (AVal × Bool)→α)→α
 | [],f=>f []
 | (v,o)::e,f=>forceV v fun v=>forceBool o fun o=>forceCells e fun e=>f ((v,o)::e)
def forceEntries {α:Type}:List (AVal × AVal)→(List (AVal × AVal)→α)→α
 | [],f=>f []
 | (k,v)::e,f=>forceV k fun k=>forceV v fun v=>forceEntries e fun e=>f ((k,v)::e)
def forceExit {α:Type} (x:Option AExit) (f:Option AExit→α):α:=match x with
 | none=>f none
 | some .normal=>f (some .normal)
 | some (.exit id)=>forceNat id fun id=>f (some (.exit id))
 | some .ret=>f (some .ret)
def forceBox {α:Type}:ABox→(ABox→α)→α
 | .hole,f=>f .hole
 | .cells cs,f=>forceCells cs fun cs=>f (.cells cs)
 | .map es,f=>forceEntries es fun es=>f (.map es)
 | .iter s pos,f=>forceNat pos fun pos=>f (.iter s pos)
 | .bld t e l,f=>forceBytes l fun l=>f (.bld t e l)
 | .dead,f=>f .dead
 | .loop l,f=>forceEnv l.env fun e=>forceExit l.pending fun x=>f (.loop ⟨e,l.params,l.assign,l.body,x⟩)
def forceHeap {α:Type}:Heap→(Heap→α)→α
 | [],f=>f []
 | b::h,f=>forceBox b fun b=>forceHeap h fun h=>f (b::h)
def forceSt {α:Type} (st:ASt) (f:ASt→α):α:=forceEnv st.env fun e=>forceHeap st.heap fun h=>f ⟨e,h⟩
section
variable {α:Type}
theorem forceNat_eq (n:Nat) (f:Nat→α):forceNat n f=f n:=by cases n <;> rfl
theorem forceInt_eq (n:Int) (f:Int→α):forceInt n f=f n:=by cases n <;> simp [forceInt,forceNat_eq]
theorem forceBool_eq (n:Bool) (f:Bool→α):forceBool n f=f n:=by cases n <;> rfl
theorem forceKind_eq (n:IntKind) (f:IntKind→α):forceKind n f=f n:=by cases n <;> rfl
theorem forceBytes_eq:∀ (s:List UInt8) (f:List UInt8→α),forceBytes s f=f s
 | [],_=>rfl
 | c::s,f=>by simp only [forceBytes]; rw [forceBytes_eq s]
theorem forceFn_eq (g:Fn) (f:Fn→α):forceFn g f=f g:=by cases g <;> simp [forceFn,forceNat_eq]
mutual
theorem forceV_eq:∀ (v:AVal) (f:AVal→α),forceV v f=f v
 | .bool b,f=>by simp only [forceV,forceBool_eq]
 | .int k n,f=>by simp only [forceV,forceKind_eq,forceInt_eq]
 | .str s,f=>by simp only [forceV,forceBytes_eq]
 | .list b sz xs,f=>by simp only [forceV,forceBool_eq,forceNat_eq]; rw [forceL_eq xs]
 | .ms b o l,f=>by simp only [forceV,forceNat_eq]
 | .ptr b o,f=>by simp only [forceV,forceNat_eq]
 | .vptr v,f=>by simp only [forceV]; rw [forceV_eq v]
 | .nilptr,f=>by simp only [forceV]
 | .map b,f=>by simp only [forceV,forceNat_eq]
 | .nilmap,f=>by simp only [forceV]
 | .fn g a c,f=>by simp only [forceV,forceFn_eq]; rw [forceL_eq a,forceL_eq c]
 | .nilfn,f=>by simp only [forceV]
 | .agg cs,f=>by simp only [forceV]; rw [forceL_eq cs]
 | .tup cs,f=>by simp only [forceV]; rw [forceL_eq cs]
 | .undef,f=>by simp only [forceV]
 | .any,f=>by simp only [forceV]
theorem forceL_eq:∀ (l:List AVal) (f:List AVal→α),forceL l f=f l
 | [],f=>by simp only [forceL]
 | x::xs,f=>by simp only [forceL]; rw [forceV_eq x,forceL_eq xs]
end
theorem forceEnv_eq:∀ (e:Env) (f:Env→α),forceEnv e f=f e
 | [],_=>rfl
 | (t,v,o)::e,f=>by simp only [forceEnv,forceNat_eq,forceV_eq,forceBool_eq]; rw [forceEnv_eq e]
theorem forceCells_eq:∀ (e:List (AVal × Bool)) (f:List (AVal × Bool)→α),forceCells e f=f e
 | [],_=>rfl
 | (v,o)::e,f=>by simp only [forceCells,forceV_eq,forceBool_eq]; rw [forceCells_eq e]
theorem forceEntries_eq:∀ (e:List (AVal × AVal)) (f:List (AVal × AVal)→α),forceEntries e f=f e
 | [],_=>rfl
 | (v,o)::e,f=>by simp only [forceEntries,forceV_eq]; rw [forceEntries_eq e]
theorem forceExit_eq (x:Option AExit) (f:Option AExit→α):forceExit x f=f x:=by
 cases x with
 | none=>rfl
 | some x=>cases x <;> simp [forceExit,forceNat_eq]
theorem forceBox_eq (b:ABox) (f:ABox→α):forceBox b f=f b:=by
 cases b <;> simp [forceBox,forceCells_eq,forceEntries_eq,forceNat_eq,forceBytes_eq,forceEnv_eq,forceExit_eq]
theorem forceHeap_eq:∀ (h:Heap) (f:Heap→α),forceHeap h f=f h
 | [],_=>rfl
 | b::h,f=>by simp only [forceHeap,forceBox_eq]; rw [forceHeap_eq h]
theorem forceSt_eq (st:ASt) (f:ASt→α):forceSt st f=f st:=by simp only [forceSt,forceEnv_eq,forceHeap_eq]
end
def xcodeF (p:AProg):Nat→XC
 | 0,_,_=>none
 | n + 1,c,st=>match c with
  | .skip=>some (.normal,st)
  | .region na ops keep=>match xregion p (xcodeF p n) na ops keep st with
   | some (x,st')=>forceSt st' fun s=>some (x,s)
   | none=>none
  | .seq a b=>match xcodeF p n a st with
   | some (.normal,st')=>xcodeF p n b st'
   | r=>r
  | .cond c a b=>match evalO st.env c with
   | some (.bool t)=>bif t then xcodeF p n a st else xcodeF p n b st
   | _=>none
  | .block id body=>match xcodeF p n body st with
   | some (.exit id',st')=>bif Nat.beq id' id then some (.normal,st') else some (.exit id',st')
   | r=>r
  | .loop body=>match xcodeF p n body st with
   | some (.normal,st')=>forceSt (gc st.heap.length st') fun s=>xcodeF p n (.loop body) s
   | r=>r
  | .rangeFunc f params assign body=>match xrange p (xcodeF p n) f params assign body st with
   | some (x,st')=>forceSt st' fun s=>some (x,s)
   | none=>none
  | .exit id=>some (.exit id,st)
  | .ret=>some (.ret,st)
  | .grow sz=>match look 0 st.env,look 1 st.env with
   | some (.list true _ _,_),some (.int .i64 (.ofNat m),_)=>bif Nat.blt 0 m && Nat.ble m 1073741824 then some (.normal,{ st with env:=[(0,.list false sz [],true)] }) else none
   | _,_=>none
  | .stuck=>none
theorem xcodeF_eq (p:AProg):∀ n,xcodeF p n=xcode p n
 | 0=>by funext c st; rfl
 | n + 1=>by
  have ih:=xcodeF_eq p n
  funext c st
  cases c with
  | region na ops keep=>
   simp only [xcodeF,xcode,ih]
   cases xregion p (xcode p n) na ops keep st with
   | none=>rfl
   | some r=>simp only [forceSt_eq]
  | rangeFunc f ps a b=>
   simp only [xcodeF,xcode,ih]
   cases xrange p (xcode p n) f ps a b st with
   | none=>rfl
   | some r=>simp only [forceSt_eq]
  | loop body=>
   simp only [xcodeF,xcode,ih,forceSt_eq]
   rfl
  | _=>simp only [xcodeF,xcode,ih] <;> rfl
inductive FTree where
 | leaf (k:Nat) (f:AFun)
 | node (m:Nat) (a b:FTree)
def FTree.find:FTree→Nat→Option AFun
 | .leaf k f,n=>bif Nat.beq k n then some f else none
 | .node m a b,n=>bif Nat.blt n m then a.find n else b.find n
def FTree.All (Q:Nat→AFun→Prop):FTree→Prop
 | .leaf k f=>Q k f
 | .node _ a b=>a.All Q∧b.All Q
theorem FTree.find_all {Q:Nat→AFun→Prop}:∀ {t:FTree} {k:Nat} {f:AFun},t.All Q→t.find k=some f→Q k f
 | .leaf j g,k,f,h,hf=>by
  simp only [FTree.find] at hf
  cases hb:Nat.beq j k with
  | false=>simp [hb] at hf
  | true=>
   have:=Nat.eq_of_beq_eq_true hb
   subst this
   simp only [hb,cond_true,Option.some.injEq] at hf
   subst hf; exact h
 | .node m a b,k,f,h,hf=>by
  simp only [FTree.find] at hf
  cases hb:Nat.blt k m with
  | true=>simp only [hb,cond_true] at hf; exact FTree.find_all h.1 hf
  | false=>simp only [hb,cond_false] at hf; exact FTree.find_all h.2 hf
def FTree.prog (t:FTree) (prims:Prims) (maps:Maps:=fun _=>none):AProg:={ fns:=t.find,prims:=prims,maps:=maps }
theorem callIso_F {p:AProg} {n k:Nat} {args:List AVal} {r:Option (AVal × Bool)} (h:callIso p (xcodeF p n) k args=r):callIso p (xcode p n) k args=r:=by
 rw [← xcodeF_eq]; exact h
end Go.Abs
/-
 From the reading of a law's arguments to values of the abstract machine; from a call of the law to what its row asks.
-/
namespace Go.Abs
def Kw (w:World):Nat→Nat→Option Value:=fun r o=>(w.cell? ⟨r,o,none⟩).filter (·.oneCell')
theorem Kw_of {w:World} {r o:Nat} {v:Value} (h:w.cell? ⟨r,o,none⟩=some v) (h1:v.oneCell'=true):Kw w r o=some v:=by simp [Kw,h,h1]
theorem Kw_cell {w:World} {r o:Nat} {v:Value} (h:Kw w r o=some v):w.cell? ⟨r,o,none⟩=some v∧v.oneCell'=true:=by
 unfold Kw at h; rw [Option.filter_eq_some_iff] at h; exact h
def aggT (P:Program) (t:TypeId):Bool:=match P.underlying t with
 | some (.struct _)=>true
 | some (.array _ _)=>true
 | _=>false
def tiled (P:Program):Nat→List Field→Bool
 | _,[]=>true
 | o,f::fs=>f.offset == o && tiled P (o + P.cellsOf f.type) fs
def fieldsEnd (P:Program) (fs:List Field):Nat:=(fs.map fun f=>P.cellsOf f.type).sum
def plainT (P:Program):Nat→TypeId→Bool
 | 0,_=>false
 | n + 1,t=>match P.underlying t with
  | some .bool=>P.cellsOf t == 1
  | some (.int _)=>P.cellsOf t == 1
  | some .string=>P.cellsOf t == 1
  | some (.slice e)=>P.cellsOf t == 1 && plainT P n e && decide (0 < P.cellsOf e)
  | some (.struct fs)=>tiled P 0 fs.toList && fieldsEnd P fs.toList == P.cellsOf t && fs.toList.all fun f=>plainT P n f.type
  | some (.array k e)=>P.cellsOf t == k * P.cellsOf e && plainT P n e
  | _=>false
def typedFs (ty:TypeId→List AVal→Prop):List Field→List AVal→Prop
 | [],cs=>cs=[]
 | f::fs,cs=>∃ ys zs,cs=ys++zs∧ty f.type ys∧typedFs ty fs zs
def typedRep (ty:List AVal→Prop):Nat→List AVal→Prop
 | 0,cs=>cs=[]
 | k + 1,cs=>∃ ys zs,cs=ys++zs∧ty ys∧typedRep ty k zs
def typedC (P:Program):Nat→TypeId→List AVal→Prop
 | 0,_,_=>False
 | n + 1,t,cs=>match P.underlying t with
  | some .bool=>∃ b,cs=[.bool b]
  | some (.int k)=>∃ m,cs=[.int k m]∧(Lit.int k m).wf=true
  | some .string=>∃ s,cs=[.str s]∧s.length≤maxLen
  | some (.slice e)=>cs=[.list true 0 []]∨∃ xs,cs=[.list false (P.cellsOf e) xs]∧xs.length≤maxLen∧∀ y∈xs,typedC P n e y.flat∧y.isAgg=aggT P e
  | some (.struct fs)=>typedFs (typedC P n) fs.toList cs
  | some (.array k e)=>typedRep (typedC P n e) k cs
  | _=>False
section
variable {P:Program} {H:Type} {enc:TypeId × Value→H} {w:World}
theorem tiled_cut:∀ (fs:List Field) (o:Nat) (vs:List Value),tiled P o fs=true→vs.length=o + fieldsEnd P fs→vs.drop o=(fs.map fun f=>(vs.drop f.offset).take (P.cellsOf f.type)).flatten
 | [],o,vs,_,hl=>by simp [fieldsEnd] at hl; simp [hl]
 | f::fs,o,vs,ht,hl=>by
  simp only [tiled,Bool.and_eq_true,beq_iff_eq] at ht
  obtain ⟨rfl,ht⟩:=ht
  have ih:=tiled_cut fs _ vs ht (by simp [fieldsEnd] at hl ⊢; omega)
  rw [List.map_cons,List.flatten_cons,← ih,← List.drop_drop,List.take_append_drop]
theorem mapM_at {α β:Type} {f:α→Option β}:∀ {l:List α} {ys:List β},l.mapM f=some ys→ys.length=l.length∧∀ (i:Nat) (x:α),l[i]?=some x→∃ y,ys[i]?=some y∧f x=some y
 | [],ys,h=>by simp at h; subst h; simp
 | a::l,ys,h=>by
  rw [List.mapM_cons] at h
  cases hf:f a with
  | none=>simp [hf] at h
  | some y=>
   cases hr:l.mapM f with
   | none=>simp [hf,hr] at h
   | some zs=>
    simp [hf,hr] at h
    subst h
    obtain ⟨h1,h2⟩:=mapM_at hr
    refine ⟨by simp [h1],fun i x hx=>?_⟩
    cases i with
    | zero=>simp at hx; subst hx; exact ⟨y,rfl,hf⟩
    | succ i=>simp at hx; obtain ⟨z,h3,h4⟩:=h2 i x hx; exact ⟨z,by simpa using h3,h4⟩
theorem cells_at {base n:Nat} {a:Addr} {vs:List Value} (h:w.cells? base a n=some vs):vs.length=n∧∀ (i:Nat) (v:Value),vs[i]?=some v→w.cell? (a.add i)=some v:=by
 unfold World.cells? at h
 split at h
 ·obtain ⟨h1,h2⟩:=mapM_at h
  rw [List.length_range] at h1
  refine ⟨h1,fun i v hv=>?_⟩
  have hi:i < n:=by rw [← h1]; exact (List.getElem?_eq_some_iff.1 hv).1
  obtain ⟨y,h3,h4⟩:=h2 i i (by rw [List.getElem?_range hi])
  rw [hv] at h3; cases h3; exact h4
 ·cases h
theorem typedFs_of {ty:TypeId→List AVal→Prop}:∀ (fs:List Field) (vss:List (List Value)),vss.length=fs.length→(∀ (i:Nat) (f:Field) (vs:List Value),fs[i]?=some f→vss[i]?=some vs→∃ cs,RepL (.iso (Kw w)) cs vs∧ty f.type cs)→∃ cs,RepL (.iso (Kw w)) cs vss.flatten∧typedFs ty fs cs
 | [],vss,hl,_=>by
  have:vss=[]:=List.length_eq_zero_iff.1 (by simpa using hl)
  subst this
  exact ⟨[],.nil,rfl⟩
 | f::fs,[],hl,_=>by simp at hl
 | f::fs,vs::vss,hl,h=>by
  obtain ⟨ys,h1,h2⟩:=h 0 f vs rfl rfl
  obtain ⟨zs,h3,h4⟩:=typedFs_of fs vss (by simpa using hl) (fun i f' vs' hf hv=>h (i + 1) f' vs' (by simpa using hf) (by simpa using hv))
  exact ⟨ys++zs,RepL.append h1 h3,ys,zs,rfl,h2,h4⟩
theorem typedRep_of {ty:List AVal→Prop}:∀ (k:Nat) (vss:List (List Value)),vss.length=k→(∀ (i:Nat) vs,vss[i]?=some vs→∃ cs,RepL (.iso (Kw w)) cs vs∧ty cs)→∃ cs,RepL (.iso (Kw w)) cs vss.flatten∧typedRep ty k cs
 | 0,vss,hl,_=>by
  have:vss=[]:=List.length_eq_zero_iff.1 hl
  subst this
  exact ⟨[],.nil,rfl⟩
 | k + 1,[],hl,_=>by simp at hl
 | k + 1,vs::vss,hl,h=>by
  obtain ⟨ys,h1,h2⟩:=h 0 vs rfl
  obtain ⟨zs,h3,h4⟩:=typedRep_of k vss (by simpa using hl) (fun i vs' hv=>h (i + 1) vs' (by simpa using hv))
  exact ⟨ys++zs,RepL.append h1 h3,ys,zs,rfl,h2,h4⟩
theorem rep_cut (n:Nat):∀ (k:Nat) (vs:List Value),vs.length=k * n→vs=((List.range k).map fun i=>(vs.drop (i * n)).take n).flatten
 | 0,vs,hl=>by
  have:vs=[]:=List.length_eq_zero_iff.1 (by simpa using hl)
  simp [this]
 | k + 1,vs,hl=>by
  have ih:=rep_cut n k (vs.drop n) (by simp [hl,Nat.succ_mul])
  rw [List.range_succ_eq_map,List.map_cons,List.flatten_cons,List.map_map]
  have e:(List.range k).map ((fun i=>(vs.drop (i * n)).take n) ∘ Nat.succ)=(List.range k).map fun i=>((vs.drop n).drop (i * n)).take n:=by
   apply List.map_congr_left
   intro i _
   simp only [Function.comp,List.drop_drop]
   congr 2
   rw [Nat.succ_mul]; omega
  rw [e,← ih]
  simp
theorem typedC_scalar:∀ {n:Nat} {t:TypeId} {cs:List AVal},typedC P n t cs→∀ x∈cs,isScalarCell x=true
 | 0,_,_,h=>h.elim
 | n + 1,t,cs,h=>by
  have fsc:∀ (fs:List Field) (cs:List AVal),typedFs (typedC P n) fs cs→∀ x∈cs,isScalarCell x=true:=by
   intro fs
   induction fs with
   | nil=>intro cs h; simp only [typedFs] at h; subst h; simp
   | cons f fs ih=>
    rintro cs ⟨ys,zs,rfl,h1,h2⟩ x hx
    rcases List.mem_append.1 hx with hx | hx
    ·exact typedC_scalar h1 x hx
    ·exact ih _ h2 x hx
  have rsc:∀ (e:TypeId) (k:Nat) (cs:List AVal),typedRep (typedC P n e) k cs→∀ x∈cs,isScalarCell x=true:=by
   intro e k
   induction k with
   | zero=>intro cs h; simp only [typedRep] at h; subst h; simp
   | succ k ih=>
    rintro cs ⟨ys,zs,rfl,h1,h2⟩ x hx
    rcases List.mem_append.1 hx with hx | hx
    ·exact typedC_scalar h1 x hx
    ·exact ih _ h2 x hx
  simp only [typedC] at h
  split at h
  ·obtain ⟨b,rfl⟩:=h; simp [isScalarCell]
  ·obtain ⟨m,rfl,_⟩:=h; simp [isScalarCell]
  ·obtain ⟨s,rfl,_⟩:=h; simp [isScalarCell]
  ·rcases h with rfl | ⟨xs,rfl,_⟩ <;> simp [isScalarCell]
  ·exact fsc _ _ h
  ·exact rsc _ _ _ h
  ·exact h.elim
theorem typedC_one {n:Nat} {t:TypeId} {cs:List AVal} (h:typedC P n t cs) (ha:aggT P t=false):∃ x,cs=[x]∧x.isAgg=false:=by
 cases n with
 | zero=>exact h.elim
 | succ n=>
  unfold aggT at ha
  simp only [typedC] at h
  split at h
  ·obtain ⟨b,rfl⟩:=h; exact ⟨_,rfl,rfl⟩
  ·obtain ⟨m,rfl,_⟩:=h; exact ⟨_,rfl,rfl⟩
  ·obtain ⟨s,rfl,_⟩:=h; exact ⟨_,rfl,rfl⟩
  ·rcases h with rfl | ⟨xs,rfl,_⟩ <;> exact ⟨_,rfl,rfl⟩
  ·rename_i hu; rw [hu] at ha; cases ha
  ·rename_i hu; rw [hu] at ha; cases ha
  ·exact h.elim
theorem read {held:Bool}:∀ (n fuel:Nat) (t:TypeId) (vs:List Value) (d:DataW H) (ps:List MemPlace),plainT P n t=true→DataW.trod enc P w 0 (fun _=>true) held fuel t vs=some (d,ps) →
  ∃ cs,RepL (.iso (Kw w)) cs vs∧typedC P n t cs∧cs.length=P.cellsOf t
 | 0,_,_,_,_,_,hp,_=>by simp [plainT] at hp
 | n + 1,0,_,_,_,_,_,h=>by simp [DataW.trod] at h
 | n + 1,fuel + 1,t,vs,d,ps,hp,h=>by
  simp only [plainT] at hp
  simp only [typedC]
  simp only [DataW.trod] at h
  cases hu:P.underlying t with
  | none=>simp [hu] at hp
  | some td=>
   rw [hu] at h hp
   cases td with
   | bool=>
    simp only [beq_iff_eq] at hp
    split at h <;> first | cases ‹some _=some _› | skip
    all_goals first | (rename_i heq; cases heq; done) | skip
    ·exact ⟨_,.cons _ _ _ _ (.bool _) .nil,⟨_,rfl⟩,by simp [hp]⟩
    ·cases h
   | int k=>
    simp only [beq_iff_eq] at hp
    split at h <;> first | cases ‹some _=some _› | skip
    all_goals first | (rename_i heq; cases heq; done) | skip
    ·split at h
     ·rename_i hk
      obtain ⟨rfl,hk2⟩:=hk
      exact ⟨_,.cons _ _ _ _ (.int _ _) .nil,⟨_,rfl,hk2⟩,by simp [hp]⟩
     ·cases h
    ·cases h
   | string=>
    simp only [beq_iff_eq] at hp
    split at h <;> first | cases ‹some _=some _› | skip
    all_goals first | (rename_i heq; cases heq; done) | skip
    ·rename_i s
     split at h
     ·rename_i hk
      refine ⟨[.str s.data.toList],.cons _ _ _ _ (RepI.str s.data.toList) .nil,⟨_,rfl,?_⟩,by simp [hp]⟩
      simpa using hk
     ·cases h
    ·cases h
   | slice e=>
    simp only [Bool.and_eq_true,beq_iff_eq,decide_eq_true_eq] at hp
    obtain ⟨⟨hp1,hp2⟩,hp3⟩:=hp
    split at h <;> first | cases ‹some _=some _› | skip
    all_goals first | (rename_i heq; cases heq; done) | skip
    ·exact ⟨_,.cons _ _ _ _ (.lnil 0) .nil,.inl rfl,by simp [hp1]⟩
    ·rename_i a len cap
     split at h
     ·rename_i hk
      obtain ⟨_,hk2,hk3⟩:=hk
      cases he:(List.range len).mapM (fun i=>(w.cells? 0 (a.add (i * P.cellsOf e)) (P.cellsOf e)).bind (DataW.trod enc P w 0 (fun _=>true) held fuel e)) with
      | none=>simp [he] at h
      | some elems=>
       simp only [he,Option.bind_some,if_true] at h
       cases hr:(List.range (cap - len)).mapM (fun j=>(w.cells? 0 (a.add ((len + j) * P.cellsOf e)) (P.cellsOf e)).bind (DataW.trod enc P w 0 (fun _=>true) held fuel e)) with
       | none=>simp [hr] at h
       | some rest=>
        obtain ⟨he1,he2⟩:=mapM_at he
        obtain ⟨hr1,hr2⟩:=mapM_at hr
        rw [List.length_range] at he1 hr1
        have hspot:0 < cap→a.spot=none:=fun hc=>by
         have hz0:∃ z,(w.cells? 0 (a.add (0 * P.cellsOf e)) (P.cellsOf e)).bind (DataW.trod enc P w 0 (fun _=>true) held fuel e)=some z:=by
          by_cases hl:0 < len
          ·obtain ⟨y,_,hy⟩:=he2 0 0 (by rw [List.getElem?_range hl]); exact ⟨y,hy⟩
          ·obtain ⟨y,_,hy⟩:=hr2 0 0 (by rw [List.getElem?_range (by omega)])
           have hl0:len=0:=by omega
           subst hl0
           exact ⟨y,by simpa using hy⟩
         obtain ⟨z0,hz0⟩:=hz0
         cases hc0:w.cells? 0 (a.add (0 * P.cellsOf e)) (P.cellsOf e) with
         | none=>rw [hc0] at hz0; cases hz0
         | some us0=>
          obtain ⟨d1,d2⟩:=cells_at hc0
          have hcc:=d2 0 _ (List.getElem?_eq_getElem (show 0 < us0.length by omega))
          have:=World.cell?_spot hcc
          simpa [Addr.add] using this
        by_cases hcap:0 < cap
        ·have hs0:=hspot hcap
         obtain ⟨r,o,sp⟩:=a
         simp only at hs0
         subst hs0
         have elem:∀ (i:Nat),i < len→∃ y:AVal,RepC (.iso (Kw w)) r y.flat (o + i * P.cellsOf e)∧y.flat.length=P.cellsOf e∧typedC P n e y.flat∧y.isAgg=aggT P e:=by
          intro i hi
          obtain ⟨z,_,hz⟩:=he2 i i (by rw [List.getElem?_range hi])
          cases hc:w.cells? 0 ((⟨r,o,none⟩:Addr).add (i * P.cellsOf e)) (P.cellsOf e) with
          | none=>simp [hc] at hz
          | some us=>
           simp only [hc,Option.bind_some] at hz
           obtain ⟨c1,c2⟩:=cells_at hc
           obtain ⟨cs,k1,k2,k3⟩:=read n fuel e us z.1 z.2 hp2 hz
           have hone:=repL_oneCell k1 (typedC_scalar k2)
           have hcs:RepC (.iso (Kw w)) r cs (o + i * P.cellsOf e):=RepC.of_vals k1 fun j v hj=>by
            have h1:=c2 j v hj
            rw [add_lit,add_lit] at h1
            exact Kw_of h1 (hone v (List.mem_of_getElem? hj))
           cases hag:aggT P e with
           | true=>exact ⟨.agg cs,hcs,k3,k2,rfl⟩
           | false=>
            obtain ⟨x,rfl,hx⟩:=typedC_one k2 hag
            have hf:x.flat=[x]:=flat_one hx
            exact ⟨x,by rw [hf]; exact hcs,by rw [hf]; exact k3,by rw [hf]; exact k2,hx⟩
         have rows:∀ (m:Nat) (q:Nat),q + m=len→∃ ys:List AVal,ys.length=m∧RepRow (.iso (Kw w)) r (P.cellsOf e) ys (o + q * P.cellsOf e)∧∀ y∈ys,typedC P n e y.flat∧y.isAgg=aggT P e:=by
          intro m
          induction m with
          | zero=>intro q _; exact ⟨[],rfl,.rnil _ _ _,by simp⟩
          | succ m ih=>
           intro q hq
           obtain ⟨ys,y1,y2,y3⟩:=ih (q + 1) (by omega)
           obtain ⟨y,z1,z2,z3⟩:=elem q (by omega)
           refine ⟨y::ys,by simp [y1],.rcons _ _ _ _ _ z2 z1 ?_,?_⟩
           ·rw [show o + q * P.cellsOf e + P.cellsOf e=o + (q + 1) * P.cellsOf e from by rw [Nat.succ_mul]; omega]; exact y2
           ·intro x hx
            rcases List.mem_cons.1 hx with rfl | hx
            ·exact z3
            ·exact y3 x hx
         obtain ⟨ys,y1,y2,y3⟩:=rows len 0 (by omega)
         rw [Nat.zero_mul,Nat.add_zero] at y2
         subst y1
         exact ⟨_,.cons _ _ _ _ (.list (P.cellsOf e) ys r o cap hk2 y2) .nil,.inr ⟨ys,rfl,by omega,y3⟩,by simp [hp1]⟩
        ·have hc0:cap=0:=by omega
         have hl0:len=0:=by omega
         subst hc0; subst hl0
         by_cases hsp:a.spot=none
         ·obtain ⟨r,o,sp⟩:=a
          simp only at hsp
          subst hsp
          exact ⟨_,.cons _ _ _ _ (.list (P.cellsOf e) [] r o 0 (by simp) (.rnil _ _ _)) .nil,.inr ⟨[],rfl,by simp,by simp⟩,by simp [hp1]⟩
         ·exact ⟨_,.cons _ _ _ _ (.lemp (P.cellsOf e) a hsp) .nil,.inr ⟨[],rfl,by simp,by simp⟩,by simp [hp1]⟩
     ·cases h
    ·cases h
   | struct fs=>
    simp only [Bool.and_eq_true,beq_iff_eq,List.all_eq_true] at hp
    obtain ⟨⟨hp1,hp2⟩,hp3⟩:=hp
    change (if vs.length=P.cellsOf t then (fs.toList.mapM fun f=>DataW.trod enc P w 0 (fun _=>true) held fuel f.type ((vs.drop f.offset).take (P.cellsOf f.type))).map fun xs=>(DataW.agg (xs.map (·.1)),xs.flatMap (·.2)) else none)=some (d,ps) at h
    ·split at h
     ·rename_i hl
      cases hm:fs.toList.mapM (fun f=>DataW.trod enc P w 0 (fun _=>true) held fuel f.type ((vs.drop f.offset).take (P.cellsOf f.type))) with
      | none=>simp [hm] at h
      | some zs=>
       obtain ⟨m1,m2⟩:=mapM_at hm
       have hcut:=tiled_cut fs.toList 0 vs hp1 (by omega)
       obtain ⟨cs,k1,k2⟩:=typedFs_of (w:=w) (ty:=typedC P n) fs.toList (fs.toList.map fun f=>(vs.drop f.offset).take (P.cellsOf f.type)) (by simp) (fun i f us hf hv=>by
        obtain ⟨z,_,hz⟩:=m2 i f hf
        have hus:us=(vs.drop f.offset).take (P.cellsOf f.type):=by
         rw [List.getElem?_map,hf] at hv
         simpa using hv.symm
        subst hus
        obtain ⟨cs,q1,q2,_⟩:=read n fuel f.type _ z.1 z.2 (hp3 f (List.mem_of_getElem? hf)) hz
        exact ⟨cs,q1,q2⟩)
       rw [← hcut] at k1
       exact ⟨cs,by simpa using k1,k2,by have:=k1.length; simp at this; omega⟩
     ·cases h
   | array k e=>
    simp only [Bool.and_eq_true,beq_iff_eq] at hp
    obtain ⟨hp1,hp2⟩:=hp
    change (if vs.length=P.cellsOf t then ((List.range k).mapM fun i=>DataW.trod enc P w 0 (fun _=>true) held fuel e ((vs.drop (i * P.cellsOf e)).take (P.cellsOf e))).map fun xs=>(DataW.agg (xs.map (·.1)),xs.flatMap (·.2)) else none)=some (d,ps) at h
    ·split at h
     ·rename_i hl
      cases hm:(List.range k).mapM (fun i=>DataW.trod enc P w 0 (fun _=>true) held fuel e ((vs.drop (i * P.cellsOf e)).take (P.cellsOf e))) with
      | none=>simp [hm] at h
      | some zs=>
       obtain ⟨m1,m2⟩:=mapM_at hm
       have hcut:=rep_cut (P.cellsOf e) k vs (by omega)
       obtain ⟨cs,k1,k2⟩:=typedRep_of (w:=w) (ty:=typedC P n e) k ((List.range k).map fun i=>(vs.drop (i * P.cellsOf e)).take (P.cellsOf e)) (by simp) (fun i us hv=>by
        have hi:i < k:=by
         have:=(List.getElem?_eq_some_iff.1 hv).1
         simpa using this
        obtain ⟨z,_,hz⟩:=m2 i i (by rw [List.getElem?_range hi])
        have hus:us=(vs.drop (i * P.cellsOf e)).take (P.cellsOf e):=by
         rw [List.getElem?_map,List.getElem?_range hi] at hv
         simpa using hv.symm
        subst hus
        obtain ⟨cs,q1,q2,_⟩:=read n fuel e _ z.1 z.2 hp2 hz
        exact ⟨cs,q1,q2⟩)
       rw [← hcut] at k1
       exact ⟨cs,k1,k2,by have:=k1.length; omega⟩
     ·cases h
   | _=>simp at hp
end
end Go.Abs
/-
 A law's row out of its call in the abstract machine.
-/
namespace Go.Abs
open Go.ChangeShapes Go.WideShapes Go.ChangeAt Go.RowKit
section
variable {P:Program} {H:Type} {enc:TypeId × Value→H} {w:World}
def typedV (P:Program) (n:Nat) (t:TypeId) (x:AVal):Prop:=typedC P n t x.flat∧x.isAgg=aggT P t
def typedAll (P:Program) (n:Nat):List TypeId→List AVal→Prop
 | [],xs=>xs=[]
 | t::ts,xs=>∃ y ys,xs=y::ys∧typedV P n t y∧typedAll P n ts ys
theorem readArg {n:Nat} {t:TypeId} {v:Value} {d:DataW H} {ps:List MemPlace} {base:Nat} (hp:plainT P n t=true) (hv:Value.okWide P w .any base t v) (h:DataW.Trod enc P w 0 (fun _=>true) true t v d ps):∃ x,Rep (.iso (Kw w)) x v∧typedV P n t x:=by
 obtain ⟨fuel,hf⟩:=h
 obtain ⟨cs,k1,k2,k3⟩:=read n fuel t _ d ps hp hf
 cases hag:aggT P t with
 | true=>
  have hvv:∃ cells,v=.agg cells:=by
   unfold aggT at hag
   unfold Value.okWide at hv
   split at hag
   ·rename_i fs hu; rw [hu] at hv; obtain ⟨c,hc,_⟩:=hv; exact ⟨c,hc⟩
   ·rename_i a b hu; rw [hu] at hv; obtain ⟨c,hc,_⟩:=hv; exact ⟨c,hc⟩
   ·cases hag
  obtain ⟨cells,rfl⟩:=hvv
  exact ⟨.agg cs,.agg cs cells.toList k1,k2,hag.symm⟩
 | false=>
  obtain ⟨x,rfl,hx⟩:=typedC_one k2 hag
  have hvv:v.cells.toList=[v]:=by
   cases v with
   | agg c=>
    exfalso
    unfold Value.okWide at hv
    unfold aggT at hag
    cases n with
    | zero=>simp [plainT] at hp
    | succ n=>
     simp only [plainT] at hp
     cases hu:P.underlying t with
     | none=>rw [hu] at hp; cases hp
     | some td=>rw [hu] at hp hv hag; cases td <;> first | (simp at hp; done) | (simp at hag; done) | (simp [Cell.okWide,hu,Cell.ok] at hv; done)
   | _=>rfl
  rw [hvv] at k1
  cases k1 with
  | cons _ _ _ _ h1 _=>exact ⟨x,h1,by rw [flat_one hx]; exact k2,by rw [hx,hag]⟩
theorem readAll {n:Nat}:∀ {ts:List TypeId} {vs:List Value} {ds:List (DataW H)} {ps:List MemPlace},ts.all (plainT P n)=true→(∀ (j:Nat) t v,ts[j]?=some t→vs[j]?=some v→∃ base,Value.okWide P w .any base t v)→DataW.TrodAll enc P w 0 (fun _=>true) true ts vs ds ps →
  ds.length=ts.length∧∃ xs,RepL (.iso (Kw w)) xs vs∧typedAll P n ts xs
 | [],[],[],ps,_,_,_=>⟨rfl,[],.nil,rfl⟩
 | [],[],_::_,ps,_,_,h=>by simp [DataW.TrodAll] at h
 | [],_::_,_,ps,_,_,h=>by simp [DataW.TrodAll] at h
 | _::_,[],_,ps,_,_,h=>by simp [DataW.TrodAll] at h
 | _::_,_::_,[],ps,_,_,h=>by simp [DataW.TrodAll] at h
 | t::ts,v::vs,d::ds,ps,hp,hv,h=>by
  obtain ⟨p,q,h1,h2,_⟩:=h
  simp only [List.all_cons,Bool.and_eq_true] at hp
  obtain ⟨base,hb⟩:=hv 0 t v rfl rfl
  obtain ⟨x,k1,k2⟩:=readArg hp.1 hb h1
  obtain ⟨hl,xs,k3,k4⟩:=readAll hp.2 (fun j t' v' ht hv'=>hv (j + 1) t' v' (by simpa using ht) (by simpa using hv')) h2
  exact ⟨by simp [hl],x::xs,.cons _ _ _ _ k1 k3,x,xs,rfl,k2,k4⟩
theorem Ext.frame {w':World} (h:Ext w w') (may:MemPlace→Prop):w.keptBut w' may:=by
 refine ⟨h.os,h.output,fun i hi=>?_⟩
 rw [h.same i hi]
 split <;> simp_all
theorem Ext.sameAt {w':World} (h:Ext w w') {p:MemPlace} (hp:p.block < w.heap.size):w.sameAt w' p:=by
 cases p with
 | cell b o=>exact World.cell?_of_block (w:=w) (h.same b hp)
 | map b=>exact h.same b hp
theorem staysAll {w':World} (hx:Ext w w') (hl:laidOutB P=true):∀ {ts:List TypeId} {vs:List Value} {ds:List (DataW H)} {ps:List MemPlace},ts.all (fun t=>P.readableRec t && decide (t < P.types.size))=true→DataW.TrodAll enc P w 0 (fun _=>true) true ts vs ds ps →
  DataW.TrodAll enc P w' 0 (fun b=>decide (b < w.heap.size)) true ts vs ds ps
 | [],[],[],ps,_,h=>h
 | [],[],_::_,ps,_,h=>by simp [DataW.TrodAll] at h
 | [],_::_,_,ps,_,h=>by simp [DataW.TrodAll] at h
 | _::_,[],_,ps,_,h=>by simp [DataW.TrodAll] at h
 | _::_,_::_,[],ps,_,h=>by simp [DataW.TrodAll] at h
 | t::ts,v::vs,d::ds,ps,hr,h=>by
  obtain ⟨p,q,h1,h2,h3⟩:=h
  simp only [List.all_cons,Bool.and_eq_true,decide_eq_true_eq] at hr
  have hlt:∀ x∈p,x.block < w.heap.size:=by obtain ⟨m,hm⟩:=h1; exact DataW.trod_lt m _ _ _ hm
  exact ⟨p,q,WideElems.Trod_stays hl hr.1.1 hr.1.2 h1 (fun x hm=>hx.sameAt (hlt x hm)) (fun x hm=>by simpa using hlt x hm),staysAll hx hl hr.2 h2,h3⟩
end
end Go.Abs
/-
 The executor without fuel: what it gives at some fuel. It satisfies the executor's own equations,and is sound.
-/
namespace Go.Abs
def XLe (f g:XC):Prop:=∀ c st r,f c st=some r→g c st=some r
section
variable {p:AProg} {f g:XC}
theorem callBody_mono (h:XLe f g) {af:AFun} {args:List AVal} {hp:Heap} {r:AVal × Bool × Heap} (hr:callBody f af args hp=some r):callBody g af args hp=some r:=by
 unfold callBody at *
 cases hb:Nat.ble args.length af.ntmps with
 | false=>simp [hb] at hr
 | true=>
  simp only [hb,cond_true] at hr ⊢
  split at hr
  ·rename_i st hst; rw [h _ _ _ hst]; exact hr
  ·rename_i st hst; rw [h _ _ _ hst]; exact hr
  ·cases hr
theorem callFn_mono (h:XLe f g) {k:Nat} {args:List AVal} {hp:Heap} {r:AVal × Bool × Heap} (hr:callFn p f k args hp=some r):callFn p g k args hp=some r:=by
 unfold callFn at *
 split at hr
 ·exact callBody_mono h hr
 ·exact hr
theorem callIso_mono (h:XLe f g) {k:Nat} {args:List AVal} {r:AVal × Bool} (hr:callIso p f k args=some r):callIso p g k args=some r:=by
 unfold callIso at *
 split at hr
 ·exact hr
 ·split at hr
  ·rename_i v o hh hc; rw [callFn_mono h hc]; exact hr
  ·cases hr
theorem yieldOp_mono (h:XLe f g) {b:Nat} {args:List AVal} {hp:Heap} {r:AVal × Heap} (hr:yieldOp f b args hp=some r):yieldOp g b args hp=some r:=by
 unfold yieldOp at *
 split at hr
 ·split at hr
  ·split at hr
   ·rename_i st hst
    rw [h _ _ _ hst]
    simp only []
    split at hr
    ·rename_i l1 hl1
     cases hp1:l1.pending.isNone with
     | false=>simp [hp1] at hr
     | true=>
      simp only [hp1,cond_true] at hr ⊢
      split at hr
      ·rename_i x st' hst'
       rw [h _ _ _ hst']
       exact hr
      ·cases hr
    ·cases hr
   ·cases hr
  ·cases hr
 ·cases hr
theorem stepCall_mono (h:XLe f g) {h0:Nat} {e:Env} {hp:Heap} {md:CMode} {x:AOpd} {l:List AOpd} {r:ORes} (hr:stepCall p f h0 e hp md x l=some r):stepCall p g h0 e hp md x l=some r:=by
 unfold stepCall at *
 split at hr
 ·cases md with
  | iso=>
   simp only [] at hr ⊢
   rename_i k first captured vs _ _
   cases hb:belowL 0 (first++vs++captured) with
   | false=>rw [hb] at hr; cases hr
   | true=>
    rw [hb] at hr
    simp only [cond_true] at hr ⊢
    split at hr
    ·rename_i v o hc; rw [callIso_mono h hc]; exact hr
    ·cases hr
  | frz _=>exact hr
  | shr=>
   simp only [] at hr ⊢
   split at hr
   ·rename_i v o hh hc; rw [callFn_mono h hc]; exact hr
   ·cases hr
 ·cases md with
  | shr=>
   simp only [] at hr ⊢
   split at hr
   ·rename_i v hh hc; rw [yieldOp_mono h hc]; exact hr
   ·cases hr
  | _=>simp at hr
 ·cases hr
theorem stepOp_mono (h:XLe f g) {h0:Nat} {al:Option (List Nat)} {e:Env} {hp:Heap} {op:AOp} {r:ORes} (hr:stepOp p f h0 al e hp op=some r):stepOp p g h0 al e hp op=some r:=by
 cases op with
 | call md x l=>exact stepCall_mono h hr
 | append rk sz b x y=>cases rk <;> exact hr
 | mkslice rk sz b z n c=>cases rk <;> exact hr
 | _=>exact hr
theorem stepOper_mono (h:XLe f g) {h0:Nat} {o:AOper} {st st':ASt} (hr:stepOper p f h0 o st=some st'):stepOper p g h0 o st=some st':=by
 unfold stepOper at *
 split at hr
 ·split at hr
  ·rename_i r hs; rw [stepOp_mono h hs]; exact hr
  ·cases hr
 ·exact hr
 ·cases hr
theorem xops_mono (h:XLe f g) {h0:Nat}:∀ {l:List AOper} {st st':ASt},xops p f h0 l st=some st'→xops p g h0 l st=some st'
 | [],_,_,hr=>hr
 | o::l,st,st',hr=>by
  simp only [xops] at hr ⊢
  split at hr
  ·rename_i s1 h1; rw [stepOper_mono h h1]; exact xops_mono h hr
  ·cases hr
theorem xregion_mono (h:XLe f g) {na:Nat} {l:List AOper} {k:Option (List Nat)} {st:ASt} {r:AExit × ASt} (hr:xregion p f na l k st=some r):xregion p g na l k st=some r:=by
 unfold xregion at *
 split at hr
 ·rename_i s1 h1; rw [xops_mono h h1]; exact hr
 ·cases hr
theorem xrange_mono (h:XLe f g) {x:AOpd} {ps:List Nat} {a b:ACode} {st:ASt} {r:AExit × ASt} (hr:xrange p f x ps a b st=some r):xrange p g x ps a b st=some r:=by
 unfold xrange at *
 cases hn:(noRange a && noRange b) with
 | false=>simp [hn] at hr
 | true=>
  simp only [hn,cond_true] at hr ⊢
  split at hr
  ·split at hr
   ·rename_i v o hh hc; rw [callFn_mono h hc]; exact hr
   ·cases hr
  ·cases hr
end
theorem xcode_succ (p:AProg):∀ n,XLe (xcode p n) (xcode p (n + 1))
 | 0=>fun c st r h=>by simp [xcode] at h
 | n + 1=>by
  have ih:=xcode_succ p n
  intro c st r h
  cases c with
  | region na l k=>simp only [xcode] at h ⊢; exact xregion_mono ih h
  | rangeFunc f ps a b=>simp only [xcode] at h ⊢; exact xrange_mono ih h
  | seq a b=>
   rw [xcode] at h ⊢
   split at h
   ·rename_i st1 h1
    rw [ih _ _ _ h1]; exact ih _ _ _ h
   ·rename_i hne
    rw [ih _ _ _ h]
    split
    ·rename_i st1 h1; cases h1; exact absurd h (hne _)
    ·rfl
  | cond c a b=>
   rw [xcode] at h ⊢
   split at h
   ·rename_i t ht
    cases t
    ·simp only [cond_false] at h ⊢; exact ih _ _ _ h
    ·simp only [cond_true] at h ⊢; exact ih _ _ _ h
   ·cases h
  | block id b=>
   rw [xcode] at h ⊢
   split at h
   ·rename_i id' st1 h1
    rw [ih _ _ _ h1]; exact h
   ·rename_i hne
    rw [ih _ _ _ h]
    split
    ·rename_i id' st1 h1; cases h1; exact absurd h (hne _ _)
    ·rfl
  | loop b=>
   rw [xcode] at h ⊢
   split at h
   ·rename_i st1 h1
    rw [ih _ _ _ h1]; exact ih _ _ _ h
   ·rename_i hne
    rw [ih _ _ _ h]
    split
    ·rename_i st1 h1; cases h1; exact absurd h (hne _)
    ·rfl
  | _=>exact h
theorem xcode_le (p:AProg) {n m:Nat} (h:n≤m):XLe (xcode p n) (xcode p m):=by
 induction h with
 | refl=>exact fun _ _ _ h=>h
 | step _ ih=>exact fun c st r hr=>xcode_succ p _ c st r (ih c st r hr)
open Classical in
noncomputable def X (p:AProg):XC:=fun c st=>if h:∃ r n,xcode p n c st=some r then some (Classical.choose h) else none
theorem X_iff {p:AProg} {c:ACode} {st:ASt} {r:AExit × ASt}:X p c st=some r↔∃ n,xcode p n c st=some r:=by
 unfold X
 constructor
 ·intro h
  split at h
  ·rename_i hh
   cases h
   exact Classical.choose_spec hh
  ·cases h
 ·rintro ⟨n,hn⟩
  have hh:∃ r n,xcode p n c st=some r:=⟨r,n,hn⟩
  rw [dif_pos hh]
  obtain ⟨m,hm⟩:=Classical.choose_spec hh
  have h1:=xcode_le p (Nat.le_max_left n m) _ _ _ hn
  have h2:=xcode_le p (Nat.le_max_right n m) _ _ _ hm
  rw [h1] at h2
  exact h2.symm
theorem X_of {p:AProg} (n:Nat):XLe (xcode p n) (X p):=fun _ _ _ h=>X_iff.2 ⟨n,h⟩
section
variable {p:AProg}
theorem callBody_fin {af:AFun} {args:List AVal} {hp:Heap} {r:AVal × Bool × Heap} (hr:callBody (X p) af args hp=some r):∃ n,callBody (xcode p n) af args hp=some r:=by
 have hr0:=hr
 unfold callBody at hr
 cases hb:Nat.ble args.length af.ntmps with
 | false=>simp [hb] at hr
 | true=>
  simp only [hb,cond_true] at hr
  have key:∀ {r'},X p af.body ⟨argEnv 0 args,hp⟩=some r'→∃ n,callBody (xcode p n) af args hp=some r:=by
   intro r' h
   obtain ⟨n,hn⟩:=X_iff.1 h
   refine ⟨n,?_⟩
   unfold callBody
   rw [hb,hn]
   rw [h] at hr
   exact hr
  split at hr
  ·rename_i st hst; exact key hst
  ·rename_i st hst; exact key hst
  ·cases hr
theorem callFn_fin {k:Nat} {args:List AVal} {hp:Heap} {r:AVal × Bool × Heap} (hr:callFn p (X p) k args hp=some r):∃ n,callFn p (xcode p n) k args hp=some r:=by
 unfold callFn at *
 cases h:p.fns k with
 | none=>rw [h] at hr; exact ⟨0,hr⟩
 | some f=>rw [h] at hr; exact callBody_fin hr
theorem callIso_fin {k:Nat} {args:List AVal} {r:AVal × Bool} (hr:callIso p (X p) k args=some r):∃ n,callIso p (xcode p n) k args=some r:=by
 unfold callIso at *
 cases h:p.prims k with
 | some f=>rw [h] at hr; exact ⟨0,hr⟩
 | none=>
  rw [h] at hr
  simp only [] at hr ⊢
  split at hr
  ·rename_i v o hh hc
   obtain ⟨n,hn⟩:=callFn_fin hc
   exact ⟨n,by rw [hn]; exact hr⟩
  ·cases hr
theorem yieldOp_fin {b:Nat} {args:List AVal} {hp:Heap} {r:AVal × Heap} (hr:yieldOp (X p) b args hp=some r):∃ n,yieldOp (xcode p n) b args hp=some r:=by
 unfold yieldOp at hr
 split at hr
 ·rename_i l hl
  split at hr
  ·rename_i e hpn hse
   split at hr
   ·rename_i st hst
    split at hr
    ·rename_i l1 hl1
     cases hp1:l1.pending.isNone with
     | false=>simp [hp1] at hr
     | true=>
      simp only [hp1,cond_true] at hr
      split at hr
      ·rename_i x st' hst'
       obtain ⟨n,hn⟩:=X_iff.1 hst
       obtain ⟨m,hm⟩:=X_iff.1 hst'
       refine ⟨max n m,?_⟩
       have h1:=xcode_le p (Nat.le_max_left n m) _ _ _ hn
       have h2:=xcode_le p (Nat.le_max_right n m) _ _ _ hm
       simp only [yieldOp,hl,hpn,hse,h1,hl1,hp1,cond_true,h2]
       exact hr
      ·cases hr
    ·cases hr
   ·cases hr
  ·cases hr
 ·cases hr
theorem stepCall_fin {h0:Nat} {e:Env} {hp:Heap} {md:CMode} {x:AOpd} {l:List AOpd} {r:ORes} (hr:stepCall p (X p) h0 e hp md x l=some r):∃ n,stepCall p (xcode p n) h0 e hp md x l=some r:=by
 unfold stepCall at hr
 split at hr
 ·rename_i k first captured vs e1 e2
  cases md with
  | iso=>
   simp only [] at hr
   cases hb:belowL 0 (first++vs++captured) with
   | false=>rw [hb] at hr; cases hr
   | true=>
    rw [hb] at hr
    simp only [cond_true] at hr
    split at hr
    ·rename_i v o hc
     obtain ⟨n,hn⟩:=callIso_fin hc
     refine ⟨n,?_⟩
     simp only [stepCall,e1,e2,hn]
     rw [hb]
     exact hr
    ·cases hr
  | frz _=>exact ⟨0,by simp only [stepCall,e1,e2]; exact hr⟩
  | shr=>
   simp only [] at hr
   split at hr
   ·rename_i v o hh hc
    obtain ⟨n,hn⟩:=callFn_fin hc
    refine ⟨n,?_⟩
    simp only [stepCall,e1,e2,hn]
    exact hr
   ·cases hr
 ·rename_i b vs e1 e2
  cases md with
  | shr=>
   simp only [] at hr
   split at hr
   ·rename_i v hh hc
    obtain ⟨n,hn⟩:=yieldOp_fin hc
    refine ⟨n,?_⟩
    simp only [stepCall,e1,e2,hn]
    exact hr
   ·cases hr
  | _=>simp at hr
 ·cases hr
theorem stepOp_fin {h0:Nat} {al:Option (List Nat)} {e:Env} {hp:Heap} {op:AOp} {r:ORes} (hr:stepOp p (X p) h0 al e hp op=some r):∃ n,stepOp p (xcode p n) h0 al e hp op=some r:=by
 cases op with
 | call md x l=>exact stepCall_fin hr
 | append rk sz b x y=>cases rk <;> exact ⟨0,hr⟩
 | mkslice rk sz b z n c=>cases rk <;> exact ⟨0,hr⟩
 | _=>exact ⟨0,hr⟩
theorem stepOper_fin {h0:Nat} {o:AOper} {st st':ASt} (hr:stepOper p (X p) h0 o st=some st'):∃ n,stepOper p (xcode p n) h0 o st=some st':=by
 unfold stepOper at *
 cases hg:guardOf st.env o.guard with
 | none=>simp [hg] at hr
 | some b=>
  rw [hg] at hr
  cases b with
  | false=>exact ⟨0,hr⟩
  | true=>
   simp only [] at hr ⊢
   split at hr
   ·rename_i r hs
    obtain ⟨n,hn⟩:=stepOp_fin hs
    exact ⟨n,by rw [hn]; exact hr⟩
   ·cases hr
theorem xops_fin {h0:Nat}:∀ {l:List AOper} {st st':ASt},xops p (X p) h0 l st=some st'→∃ n,xops p (xcode p n) h0 l st=some st'
 | [],_,_,hr=>⟨0,hr⟩
 | o::l,st,st',hr=>by
  simp only [xops] at hr
  split at hr
  ·rename_i s1 h1
   obtain ⟨n,hn⟩:=stepOper_fin h1
   obtain ⟨m,hm⟩:=xops_fin hr
   refine ⟨max n m,?_⟩
   simp only [xops]
   rw [stepOper_mono (xcode_le p (Nat.le_max_left n m)) hn]
   exact xops_mono (xcode_le p (Nat.le_max_right n m)) hm
  ·cases hr
theorem xregion_fin {na:Nat} {l:List AOper} {k:Option (List Nat)} {st:ASt} {r:AExit × ASt} (hr:xregion p (X p) na l k st=some r):∃ n,xregion p (xcode p n) na l k st=some r:=by
 unfold xregion at hr
 split at hr
 ·rename_i s1 h1
  obtain ⟨n,hn⟩:=xops_fin h1
  exact ⟨n,by unfold xregion; rw [hn]; exact hr⟩
 ·cases hr
theorem xrange_fin {x:AOpd} {ps:List Nat} {a b:ACode} {st:ASt} {r:AExit × ASt} (hr:xrange p (X p) x ps a b st=some r):∃ n,xrange p (xcode p n) x ps a b st=some r:=by
 unfold xrange at hr
 cases hn:(noRange a && noRange b) with
 | false=>simp [hn] at hr
 | true=>
  simp only [hn,cond_true] at hr
  split at hr
  ·rename_i k first captured hev
   split at hr
   ·rename_i v o hh hc
    obtain ⟨n,hn'⟩:=callFn_fin hc
    refine ⟨n,?_⟩
    unfold xrange
    rw [hn,hev]
    simp only [cond_true]
    rw [hn']
    exact hr
   ·cases hr
  ·cases hr
theorem opt_ext {α:Type} {x y:Option α} (h1:∀ r,x=some r→y=some r) (h2:∀ r,y=some r→x=some r):x=y:=by
 cases x with
 | none=>
  cases y with
  | none=>rfl
  | some r=>exact (h2 r rfl)
 | some r=>exact (h1 r rfl).symm
theorem X_skip {st:ASt}:X p .skip st=some (.normal,st):=X_iff.2 ⟨1,rfl⟩
theorem X_exit {id:Nat} {st:ASt}:X p (.exit id) st=some (.exit id,st):=X_iff.2 ⟨1,rfl⟩
theorem X_ret {st:ASt}:X p .ret st=some (.ret,st):=X_iff.2 ⟨1,rfl⟩
theorem X_region {na:Nat} {l:List AOper} {k:Option (List Nat)} {st:ASt}:X p (.region na l k) st=xregion p (X p) na l k st:=by
 refine opt_ext (fun r h=>?_) (fun r h=>?_)
 ·obtain ⟨n,hn⟩:=X_iff.1 h
  cases n with
  | zero=>simp [xcode] at hn
  | succ n=>simp only [xcode] at hn; exact xregion_mono (X_of n) hn
 ·obtain ⟨n,hn⟩:=xregion_fin h
  exact X_iff.2 ⟨n + 1,by simp only [xcode]; exact hn⟩
theorem X_range {x:AOpd} {ps:List Nat} {a b:ACode} {st:ASt}:X p (.rangeFunc x ps a b) st=xrange p (X p) x ps a b st:=by
 refine opt_ext (fun r h=>?_) (fun r h=>?_)
 ·obtain ⟨n,hn⟩:=X_iff.1 h
  cases n with
  | zero=>simp [xcode] at hn
  | succ n=>simp only [xcode] at hn; exact xrange_mono (X_of n) hn
 ·obtain ⟨n,hn⟩:=xrange_fin h
  exact X_iff.2 ⟨n + 1,by simp only [xcode]; exact hn⟩
theorem X_seq {a b:ACode} {st:ASt}:X p (.seq a b) st=match X p a st with
  | some (.normal,st')=>X p b st'
  | r=>r:=by
 refine opt_ext (fun r h=>?_) (fun r h=>?_)
 ·obtain ⟨n,hn⟩:=X_iff.1 h
  cases n with
  | zero=>simp [xcode] at hn
  | succ n=>
   rw [xcode] at hn
   split at hn
   ·rename_i st1 h1; rw [X_of n _ _ _ h1]; exact X_of n _ _ _ hn
   ·rename_i hne
    rw [X_of n _ _ _ hn]
    split
    ·rename_i st1 h1; cases h1; exact absurd hn (hne _)
    ·rfl
 ·split at h
  ·rename_i st1 h1
   obtain ⟨n,hn⟩:=X_iff.1 h1
   obtain ⟨m,hm⟩:=X_iff.1 h
   refine X_iff.2 ⟨max n m + 1,?_⟩
   rw [xcode,xcode_le p (Nat.le_max_left n m) _ _ _ hn]
   exact xcode_le p (Nat.le_max_right n m) _ _ _ hm
  ·rename_i hne
   obtain ⟨n,hn⟩:=X_iff.1 h
   refine X_iff.2 ⟨n + 1,?_⟩
   rw [xcode,hn]
   split
   ·rename_i st1 h1; cases h1; exact absurd h (hne _)
   ·rfl
theorem X_cond {c:AOpd} {a b:ACode} {st:ASt}:X p (.cond c a b) st=match evalO st.env c with
  | some (.bool t)=>bif t then X p a st else X p b st
  | _=>none:=by
 refine opt_ext (fun r h=>?_) (fun r h=>?_)
 ·obtain ⟨n,hn⟩:=X_iff.1 h
  cases n with
  | zero=>simp [xcode] at hn
  | succ n=>
   rw [xcode] at hn
   split at hn
   ·rename_i t ht
    rw [ht]
    cases t
    ·simp only [cond_false] at hn ⊢; exact X_of n _ _ _ hn
    ·simp only [cond_true] at hn ⊢; exact X_of n _ _ _ hn
   ·cases hn
 ·split at h
  ·rename_i t ht
   cases t
   ·simp only [cond_false] at h
    obtain ⟨n,hn⟩:=X_iff.1 h
    exact X_iff.2 ⟨n + 1,by rw [xcode,ht]; exact hn⟩
   ·simp only [cond_true] at h
    obtain ⟨n,hn⟩:=X_iff.1 h
    exact X_iff.2 ⟨n + 1,by rw [xcode,ht]; exact hn⟩
  ·cases h
theorem X_block {id:Nat} {b:ACode} {st:ASt}:X p (.block id b) st=match X p b st with
  | some (.exit id',st')=>bif Nat.beq id' id then some (.normal,st') else some (.exit id',st')
  | r=>r:=by
 refine opt_ext (fun r h=>?_) (fun r h=>?_)
 ·obtain ⟨n,hn⟩:=X_iff.1 h
  cases n with
  | zero=>simp [xcode] at hn
  | succ n=>
   rw [xcode] at hn
   split at hn
   ·rename_i id' st1 h1; rw [X_of n _ _ _ h1]; exact hn
   ·rename_i hne
    rw [X_of n _ _ _ hn]
    split
    ·rename_i id' st1 h1; cases h1; exact absurd hn (hne _ _)
    ·rfl
 ·split at h
  ·rename_i id' st1 h1
   obtain ⟨n,hn⟩:=X_iff.1 h1
   exact X_iff.2 ⟨n + 1,by rw [xcode,hn]; exact h⟩
  ·rename_i hne
   obtain ⟨n,hn⟩:=X_iff.1 h
   refine X_iff.2 ⟨n + 1,?_⟩
   rw [xcode,hn]
   split
   ·rename_i id' st1 h1; cases h1; exact absurd h (hne _ _)
   ·rfl
theorem X_loop {b:ACode} {st:ASt}:X p (.loop b) st=match X p b st with
  | some (.normal,st')=>X p (.loop b) (gc st.heap.length st')
  | r=>r:=by
 refine opt_ext (fun r h=>?_) (fun r h=>?_)
 ·obtain ⟨n,hn⟩:=X_iff.1 h
  cases n with
  | zero=>simp [xcode] at hn
  | succ n=>
   rw [xcode] at hn
   split at hn
   ·rename_i st1 h1; rw [X_of n _ _ _ h1]; exact X_of n _ _ _ hn
   ·rename_i hne
    rw [X_of n _ _ _ hn]
    split
    ·rename_i st1 h1; cases h1; exact absurd hn (hne _)
    ·rfl
 ·split at h
  ·rename_i st1 h1
   obtain ⟨n,hn⟩:=X_iff.1 h1
   obtain ⟨m,hm⟩:=X_iff.1 h
   refine X_iff.2 ⟨max n m + 1,?_⟩
   rw [xcode,xcode_le p (Nat.le_max_left n m) _ _ _ hn]
   exact xcode_le p (Nat.le_max_right n m) _ _ _ hm
  ·rename_i hne
   obtain ⟨n,hn⟩:=X_iff.1 h
   refine X_iff.2 ⟨n + 1,?_⟩
   rw [xcode,hn]
   split
   ·rename_i st1 h1; cases h1; exact absurd h (hne _)
   ·rfl
theorem X_grow {sz:Nat} {st:ASt}:X p (.grow sz) st=match look 0 st.env,look 1 st.env with
   | some (.list true _ _,_),some (.int .i64 (.ofNat m),_)=>bif Nat.blt 0 m && Nat.ble m 1073741824 then some (.normal,{ st with env:=[(0,.list false sz [],true)] }) else none
   | _,_=>none:=by
 refine opt_ext (fun r h=>?_) (fun r h=>?_)
 ·obtain ⟨n,hn⟩:=X_iff.1 h
  cases n with
  | zero=>simp [xcode] at hn
  | succ n=>simp only [xcode] at hn; exact hn
 ·exact X_iff.2 ⟨1,by simp only [xcode]; exact h⟩
theorem callX_ok {P:Program} (hp':ProgOk P p) {k:Nat} {args:List AVal} {v:AVal} {ow:Bool} (h:callIso p (X p) k args=some (v,ow)) (hb:belowL 0 args=true):IsoCall P k args v ow:=by
 obtain ⟨n,hn⟩:=callIso_fin h
 exact call_ok hp' hn hb
end
end Go.Abs
/-
 A list that a slot owns becomes a box that can be written: at one place of a function's body that is called in a heap of its own.
-/
namespace Go.Abs
def plainV:AVal→Bool
 | .bool _=>true
 | .int _ _=>true
 | .str _=>true
 | _=>false
def thawAt (s:Nat) (st:ASt):Option ASt:=
 match st.heap,look s st.env with
 | [],some (.list false sz xs,true)=>bif Nat.beq sz 1 && xs.all plainV && st.env.all (fun y=>Nat.beq y.1 s || plainV y.2.1) then
   some ⟨(s,.ms 0 0 xs.length,false)::st.env,[.cells (cellsOf xs)]⟩ else none
 | _,_=>none
def rowsOf (sz:Nat):Nat→List AVal→List AVal
 | 0,_=>[]
 | n + 1,cs=>(bif Nat.beq sz 1 then cs.headD .undef else .agg (cs.take sz))::rowsOf sz n (cs.drop sz)
def sealAt (s sz:Nat) (st:ASt):Option ASt:=
 match st.heap,look s st.env with
 | [.cells cs],some (.ms 0 0 len,_)=>bif Nat.beq (len * sz) cs.length && Nat.blt 0 sz && cs.all (fun c=>below 0 c.1 && !c.1.isAgg) && st.env.all (fun y=>Nat.beq y.1 s || below 0 y.2.1) then
   some ⟨(s,.list false sz (rowsOf sz len (cs.map (·.1))),false)::st.env,[]⟩ else none
 | _,_=>none
inductive GCode where
 | code (c:ACode)
 | seq (a b:GCode)
 | cond (c:AOpd) (a b:GCode)
 | block (id:Nat) (b:GCode)
 | loop (b:GCode)
 | thaw (s:Nat) (c:GCode)
 | shut (s sz:Nat) (c:GCode)
def GCode.erase:GCode→ACode
 | .code c=>c
 | .seq a b=>.seq a.erase b.erase
 | .cond c a b=>.cond c a.erase b.erase
 | .block id b=>.block id b.erase
 | .loop b=>.loop b.erase
 | .thaw _ c=>c.erase
 | .shut _ _ c=>c.erase
def isSkip:ACode→Bool
 | .skip=>true
 | _=>false
inductive GRun (p:AProg):GCode→ASt→AExit→ASt→Prop where
 | code {c st x st'} (h:X p c st=some (x,st')):GRun p (.code c) st x st'
 | seqN {a b st st1 x st'} (hs:isSkip b.erase=false) (h:GRun p a st .normal st1) (k:GRun p b st1 x st'):GRun p (.seq a b) st x st'
 | seqX {a b st x st'} (hs:isSkip b.erase=false) (h:GRun p a st x st') (hx:x ≠ .normal):GRun p (.seq a b) st x st'
 | condT {c a b st x st'} (hc:evalO st.env c=some (.bool true)) (h:GRun p a st x st'):GRun p (.cond c a b) st x st'
 | condF {c a b st x st'} (hc:evalO st.env c=some (.bool false)) (h:GRun p b st x st'):GRun p (.cond c a b) st x st'
 | blockE {id b st st'} (h:GRun p b st (.exit id) st'):GRun p (.block id b) st .normal st'
 | blockX {id b st x st'} (h:GRun p b st x st') (hx:x ≠ .exit id):GRun p (.block id b) st x st'
 | loopN {b st st1 x st'} (h:GRun p b st .normal st1) (k:GRun p (.loop b) (gc st.heap.length st1) x st'):GRun p (.loop b) st x st'
 | loopX {b st x st'} (h:GRun p b st x st') (hx:x ≠ .normal):GRun p (.loop b) st x st'
 | thaw {s c st st1 x st'} (ht:thawAt s st=some st1) (h:GRun p c st1 x st'):GRun p (.thaw s c) st x st'
 | shut {s sz c st st1 x st'} (ht:sealAt s sz st=some st1) (h:GRun p c st1 x st'):GRun p (.shut s sz c) st x st'
theorem look_mem {s:Nat} {x:AVal × Bool}:∀ {e:Env},look s e=some x→(s,x)∈e
 | [],h=>by simp [look] at h
 | (t,y)::e,h=>by
  simp only [look] at h
  cases hb:Nat.beq t s with
  | true=>
   rw [hb] at h
   simp only [cond_true,Option.some.injEq] at h
   have:=Nat.eq_of_beq_eq_true hb
   subst this; subst h
   exact List.mem_cons_self ..
  | false=>
   rw [hb] at h
   exact List.mem_cons_of_mem _ (look_mem h)
theorem plain_rep {C C':Ctx} {x:AVal} {v:Value} (hp:plainV x=true) (h:Rep C x v):Rep C' x v:=by
 cases x <;> simp only [plainV,Bool.false_eq_true] at hp <;> cases h <;> constructor
theorem plain_flat {x:AVal} (hp:plainV x=true):x.flat=[x]:=by
 cases x <;> simp only [plainV,Bool.false_eq_true] at hp <;> rfl
theorem plain_own {C:Ctx} {ω:Nat→Option Loc} {w:World} {B:Nat} {ℓ:Loc} {x:AVal} {v:Value} (hp:plainV x=true):OwnV C ω w B ℓ x v:=by
 cases x <;> simp only [plainV,Bool.false_eq_true] at hp <;> trivial
theorem thaw_ok {P:Program} {K:Nat→Nat→Option Value} {C:Ctx} {ω:Nat→Option Loc} {w0 w:World} {env:Env} {tmps:Array Value} {s:Nat} {xs:List AVal}
  (hK:∀ r o u,K r o=some u→w0.cell? ⟨r,o,none⟩=some u) (m:MInv P C ω w0 (.iso K) [] w) (e:EnvRel C ω w w0.heap.size env tmps)
  (hs:look s env=some (.list false 1 xs,true)) (hx:xs.all plainV=true) (hv:(env.all fun y=>Nat.beq y.1 s || plainV y.2.1)=true):
  ∃ C',C'.D=C.D∧(Ctx.iso K).le C'∧MInv P C' ω w0 (.iso K) [.cells (cellsOf xs)] w∧EnvRel C' ω w w0.heap.size ((s,.ms 0 0 xs.length,false)::env) tmps:=by
 obtain ⟨v,hv1,hv2,hv3⟩:=e s _ hs
 have ho:=hv3 rfl
 have hpl:∀ x∈xs,plainV x=true:=fun x hx'=>List.all_eq_true.1 hx x hx'
 have hKlt:∀ r o u,K r o=some u→r < w0.heap.size:=by
  intro r o u h
  have h1:=hK r o u h
  unfold World.cell? at h1
  split at h1
  ·rename_i c _ _ hc; exact (Array.getElem?_eq_some_iff.1 hc).1
  ·cases h1
 cases hv2 with
 | lemp sz a hsp=>
  simp only [OwnV] at ho
  exact absurd ho.2.2.2.1 hsp
 | list sz _ r o cap hl hr=>
  simp only [OwnV] at ho
  obtain ⟨o1,o2,o3,_,o5,⟨cells,elem,o6,o7⟩,o8⟩:=ho
  subst o5
  have hW:C.W=fun _=>False:=m.grown.w
  have hB:w0.heap.size≤r:=o2.resolve_right (by rw [hW]; exact fun h=>h)
  have hlt:r < w.heap.size:=(Array.getElem?_eq_some_iff.1 o6).1
  let C':Ctx:={ C with K:=fun q o=>if q=r then none else C.K q o,β:=fun b=>if b=0 then some r else none }
  have hβ:∀ {b q},C'.β b=some q→b=0∧q=r:=by
   intro b q hb
   simp only [C'] at hb
   split at hb
   ·exact ⟨by assumption,by cases hb; rfl⟩
   ·cases hb
  have hK':∀ {q o u},C'.K q o=some u→q ≠ r∧C.K q o=some u:=by
   intro q o u h
   simp only [C'] at h
   split at h
   ·cases h
   ·exact ⟨by assumption,h⟩
  have hle:(Ctx.iso K).le C':=by
   refine ⟨fun q o u h=>?_,(fun b q h=>by cases h),m.grown.w,m.grown.d⟩
   have:=hKlt q o u h
   have hne:q ≠ r:=by omega
   simp only [C',if_neg hne]
   exact m.grown.k q o u h
  refine ⟨C',rfl,hle,?_,?_⟩
  ·exact {
    base:=m.base
    know:=fun q o u h=>m.know q o u (hK' h).2
    kone:=fun q o u h=>m.kone q o u (hK' h).2
    apart:=fun b q o h=>by obtain ⟨_,rfl⟩:=hβ h; simp [C']
    inj:=fun b b' q h h'=>by rw [(hβ h).1,(hβ h').1]
    lt:=fun b q h=>by obtain ⟨rfl,rfl⟩:=hβ h; exact ⟨hlt,by simp⟩
    size:=m.size
    frame:=m.frame
    dfr:=m.dfr
    os:=m.os
    output:=m.output
    fresh:=fun b q h=>by obtain ⟨_,rfl⟩:=hβ h; exact .inr (.inl hB)
    grown:=hle
    old:=fun q o hq hw=>by
     have hne:q ≠ r:=by omega
     simp only [C',if_neg hne]
     exact m.old q o hq hw
    box:=fun b x q hx' h=>by
     obtain ⟨rfl,rfl⟩:=hβ h
     simp only [List.getElem?_cons_zero,Option.some.injEq] at hx'
     subst hx'
     have hlen:(cellsOf xs).length=xs.length:=by simp [cellsOf]
     refine ⟨cells,elem,o6,by omega,?_⟩
     intro j c hc
     simp only [cellsOf,List.getElem?_map,Option.map_eq_some_iff] at hc
     obtain ⟨y,hy,rfl⟩:=hc
     have hyp:=hpl y (List.mem_of_getElem? hy)
     have hcell:=RepRow.get hr hy
     rw [plain_flat hyp] at hcell
     have h1:=RepC.get hcell (i:=0) (x:=y) rfl
     obtain ⟨u,k1,k2⟩:=h1
     have k1':C.K q j=some u:=by simpa using k1
     have k3:=m.know q j u k1'
     unfold World.cell? at k3
     rw [o6] at k3
     simp only [Option.isSome_none,Bool.false_eq_true,if_false] at k3
     exact ⟨u,k3,m.kone q j u k1',plain_rep hyp k2,fun h=>by simp at h⟩ }
  ·intro t x ht
   by_cases hts:t=s
   ·subst hts
    rw [look_cons_eq] at ht
    cases ht
    exact ⟨_,hv1,.ms 0 0 xs.length r cap (by simp [C']) hl,fun h=>by simp at h⟩
   ·rw [look_cons_ne hts] at ht
    obtain ⟨u,k1,k2,_⟩:=e t x ht
    have hmem:=List.all_eq_true.1 hv _ (look_mem ht)
    have hpx:plainV x.1=true:=by
     simp only [Bool.or_eq_true] at hmem
     rcases hmem with h | h
     ·exact absurd (Nat.eq_of_beq_eq_true h) hts
     ·exact h
    exact ⟨u,k1,plain_rep hpx k2,fun _=>plain_own hpx⟩
theorem codeX_ok {P:Program} {p:AProg} (hp:ProgOk P p):CodeOk' P (X p):=by
 intro ρ nt c ca st st' x hc hn hx
 obtain ⟨n,hx'⟩:=X_iff.1 hx
 exact (code_ok hp n).1 ρ nt c ca st st' x hc hn hx'
def StI (P:Program) (w0:World) (K:Nat→Nat→Option Value) (nt:Nat) (st:ASt) (a:Act) (w:World):Prop:=
 a.tmps.size=nt∧∃ C' ω',Marks C' w0.heap.size a.defers∧MInv P C' ω' w0 (.iso K) st.heap w∧EnvRel C' ω' w w0.heap.size st.env a.tmps
def PostI (P:Program) (w0:World) (K:Nat→Nat→Option Value) (nt:Nat) (x:AExit) (st':ASt):Exit→Act→World→Prop:=fun e a' w'=>e=exOf x∧StI P w0 K nt st' a' w'
theorem StOk.toI {P:Program} {w0:World} {K:Nat→Nat→Option Value} {C:Ctx} {nt:Nat} {st:ASt} {a:Act} {w:World} (h:StOk P w0 (.iso K) C nt st a w):StI P w0 K nt st a w:=by
 obtain ⟨h1,C',ω',_,h2,h3,h4⟩:=h
 exact ⟨h1,C',ω',h2,h3,h4⟩
theorem thawAt_ok {P:Program} {K:Nat→Nat→Option Value} {w0 w:World} {nt s:Nat} {st st':ASt} {a:Act} (hK:∀ r o u,K r o=some u→w0.cell? ⟨r,o,none⟩=some u) (ht:thawAt s st=some st') (h:StI P w0 K nt st a w):StI P w0 K nt st' a w:=by
 unfold thawAt at ht
 split at ht
 ·rename_i sz xs hh hs
  cases hb:(Nat.beq sz 1 && xs.all plainV && st.env.all (fun y=>Nat.beq y.1 s || plainV y.2.1)) with
  | false=>rw [hb] at ht; cases ht
  | true=>
   rw [hb] at ht
   simp only [cond_true,Option.some.injEq] at ht
   subst ht
   simp only [Bool.and_eq_true] at hb
   obtain ⟨⟨b1,b2⟩,b3⟩:=hb
   have:=Nat.eq_of_beq_eq_true b1
   subst this
   obtain ⟨hsz,C',ω',⟨rs,hmk1,hmk2,hmk3⟩,m,e⟩:=h
   rw [hh] at m
   obtain ⟨C2,q1,q2,q3,q4⟩:=thaw_ok hK m e hs b2 b3
   exact ⟨hsz,C2,ω',⟨rs,hmk1,hmk2,fun r hr=>by rw [q1]; exact hmk3 r hr⟩,q3,q4⟩
 ·cases ht
theorem row_of {C:Ctx} {r:Nat}:∀ {xs:List AVal} {o:Nat},(∀ x∈xs,plainV x=true)→(∀ j x,xs[j]?=some x→∃ v,C.K r (o + j)=some v∧Rep C x v)→RepRow C r 1 xs o
 | [],o,_,_=>.rnil _ _ _
 | x::xs,o,hp,h=>by
  have hx:=hp x (List.mem_cons_self ..)
  obtain ⟨v,h1,h2⟩:=h 0 x rfl
  refine .rcons _ _ _ _ _ (by rw [plain_flat hx]; rfl) ?_ (row_of (fun y hy=>hp y (List.mem_cons_of_mem _ hy)) fun j y hy=>?_)
  ·rw [plain_flat hx]
   exact .ccons _ _ _ _ _ (by simpa using h1) h2 (.cnil _ _)
  ·obtain ⟨v,k1,k2⟩:=h (j + 1) y (by simpa using hy)
   exact ⟨v,by rw [show o + 1 + j=o + (j + 1) by omega]; exact k1,k2⟩
theorem OwnV.closeUp {C C':Ctx} {ω:Nat→Option Loc} {w:World} {B:Nat} {ℓ:Loc} {x:AVal} {v:Value} (h:OwnV C ω w B ℓ x v) (hβ:∀ {r} b,C'.β b ≠ some r) (hW:C'.W=C.W) (hK:∀ r,(∀ b,C.β b ≠ some r)→∀ o,C.K r o=none→C'.K r o=none):OwnV C' ω w B ℓ x v:=by
 unfold OwnV at *
 split at h
 ·obtain ⟨g1,g2,g3,g4,g5,g6,g7⟩:=h
  exact ⟨g1,by rw [hW]; exact g2,fun b=>hβ b,g4,g5,g6,fun o ho=>hK _ g3 o (g7 o ho)⟩
 ·trivial
theorem cells_of {C:Ctx} {r:Nat}:∀ {ys:List AVal} {o:Nat},(∀ j x,ys[j]?=some x→∃ v,C.K r (o + j)=some v∧Rep C x v)→RepC C r ys o
 | [],o,_=>.cnil _ _
 | x::ys,o,h=>by
  obtain ⟨v,h1,h2⟩:=h 0 x rfl
  refine .ccons _ _ _ _ v (by simpa using h1) h2 (cells_of fun j y hy=>?_)
  obtain ⟨v,k1,k2⟩:=h (j + 1) y (by simpa using hy)
  exact ⟨v,by rw [show o + 1 + j=o + (j + 1) by omega]; exact k1,k2⟩
theorem rowsOf_rep {C:Ctx} {r sz:Nat} (hz:0 < sz):∀ {n:Nat} {xs:List AVal} {o:Nat},xs.length=n * sz→(∀ x∈xs,x.isAgg=false)→(∀ j x,xs[j]?=some x→∃ v,C.K r (o + j)=some v∧Rep C x v)→RepRow C r sz (rowsOf sz n xs) o
 | 0,xs,o,_,_,_=>.rnil _ _ _
 | n + 1,xs,o,hl,hp,h=>by
  rw [Nat.succ_mul] at hl
  have hf:(bif Nat.beq sz 1 then xs.headD .undef else AVal.agg (xs.take sz)).flat=xs.take sz:=by
   cases hb:Nat.beq sz 1 with
   | false=>rfl
   | true=>
    have:=Nat.eq_of_beq_eq_true hb
    subst this
    match xs,hl with
    | x::xs,_=>simp only [cond_true,List.headD_cons]; rw [flat_one (hp x (List.mem_cons_self ..))]; rfl
  refine .rcons _ _ _ _ _ ?_ ?_ (rowsOf_rep hz ?_ (fun x hx=>hp x (List.mem_of_mem_drop hx)) fun j x hx=>?_)
  ·rw [hf,List.length_take]; omega
  ·rw [hf]
   refine cells_of fun j x hx=>h j x ?_
   rw [List.getElem?_take] at hx
   split at hx
   ·exact hx
   ·cases hx
  ·rw [List.length_drop]; omega
  ·rw [List.getElem?_drop] at hx
   obtain ⟨v,k1,k2⟩:=h _ x hx
   exact ⟨v,by rw [Nat.add_assoc]; exact k1,k2⟩
theorem rowsOf_length {sz:Nat}:∀ {n:Nat} {xs:List AVal},(rowsOf sz n xs).length=n
 | 0,_=>rfl
 | n + 1,xs=>by simp only [rowsOf,List.length_cons]; rw [rowsOf_length]
theorem sealAt_ok {P:Program} {K:Nat→Nat→Option Value} {w0 w:World} {nt s sz:Nat} {st st':ASt} {a:Act} (hK:∀ r o u,K r o=some u→w0.cell? ⟨r,o,none⟩=some u) (ht:sealAt s sz st=some st') (h:StI P w0 K nt st a w):StI P w0 K nt st' a w:=by
 unfold sealAt at ht
 split at ht
 ·rename_i cs len ow hh hs
  cases hb:(Nat.beq (len * sz) cs.length && Nat.blt 0 sz && cs.all (fun c=>below 0 c.1 && !c.1.isAgg) && st.env.all (fun y=>Nat.beq y.1 s || below 0 y.2.1)) with
  | false=>rw [hb] at ht; cases ht
  | true=>
   rw [hb] at ht
   simp only [cond_true,Option.some.injEq] at ht
   subst ht
   simp only [Bool.and_eq_true] at hb
   obtain ⟨⟨⟨b1,b0⟩,b2⟩,b3⟩:=hb
   have b1:=Nat.eq_of_beq_eq_true b1
   have b0:0 < sz:=by simpa using b0
   obtain ⟨hsz,C,ω,⟨rs,hmk1,hmk2,hmk3⟩,m,e⟩:=h
   rw [hh] at m
   obtain ⟨v,hv1,hv2,_⟩:=e s _ hs
   cases hv2 with
   | ms b o ln r cap hβ hl=>
    obtain ⟨vs,elem,k1,k2,k3⟩:=m.box 0 (.cells cs) r rfl hβ
    have hlt:r < w.heap.size:=(m.lt 0 r hβ).1
    have hB:w0.heap.size≤r:=by
     rcases m.fresh 0 r hβ with h | h | h
     ·cases h
     ·exact h
     ·exact h.elim
    have hKlt:∀ r o u,K r o=some u→r < w0.heap.size:=by
     intro r o u h
     have h1:=hK r o u h
     unfold World.cell? at h1
     split at h1
     ·rename_i c _ _ hc; exact (Array.getElem?_eq_some_iff.1 hc).1
     ·cases h1
    let C':Ctx:={ C with K:=fun q o=>if q=r then (if o < cs.length then vs[o]? else none) else C.K q o,β:=fun _=>none }
    have hKr:∀ o,C.K r o=none:=fun o=>m.apart 0 r o hβ
    have hle:∀ q o u,C.K q o=some u→C'.K q o=some u:=by
     intro q o u h
     have hne:q ≠ r:=fun hq=>by subst hq; rw [hKr] at h; cases h
     simp only [C',if_neg hne]; exact h
    have hC'r:∀ {o u},C'.K r o=some u→o < cs.length∧vs[o]?=some u:=by
     intro o u h
     simp only [C',if_true] at h
     split at h
     ·exact ⟨by assumption,h⟩
     ·cases h
    have hcell:∀ j x,cs[j]?=some x→∃ u,C'.K r j=some u∧u.oneCell'=true∧Rep C x.1 u:=by
     intro j x hx
     obtain ⟨u,q1,q2,q3,_⟩:=k3 j x hx
     have hj:j < cs.length:=(List.getElem?_eq_some_iff.1 hx).1
     exact ⟨u,by simp only [C',if_true,if_pos hj]; exact q1,q2,q3⟩
    have hpl:∀ x∈cs,below 0 x.1=true∧x.1.isAgg=false:=fun x hx=>by simpa using List.all_eq_true.1 b2 x hx
    refine ⟨hsz,C',ω,⟨rs,hmk1,hmk2,fun r hr=>hmk3 r hr⟩,?_,?_⟩
    ·exact {
      base:=m.base
      know:=fun q o u h=>by
       by_cases hq:q=r
       ·subst hq
        obtain ⟨_,h2⟩:=hC'r h
        unfold World.cell?
        rw [k1]; simpa using h2
       ·simp only [C',if_neg hq] at h; exact m.know q o u h
      kone:=fun q o u h=>by
       by_cases hq:q=r
       ·subst hq
        obtain ⟨h1,h2⟩:=hC'r h
        obtain ⟨x,hx⟩:∃ x,cs[o]?=some x:=⟨cs[o],by simp [h1]⟩
        obtain ⟨u',q1,q2,_⟩:=hcell o x hx
        rw [h] at q1; cases q1; exact q2
       ·simp only [C',if_neg hq] at h; exact m.kone q o u h
      apart:=fun b q o h=>by cases h
      inj:=fun b b' q h=>by cases h
      lt:=fun b q h=>by cases h
      size:=m.size
      frame:=m.frame
      dfr:=m.dfr
      os:=m.os
      output:=m.output
      fresh:=fun b q h=>by cases h
      grown:=⟨fun q o u h=>hle q o u (m.grown.k q o u h),(fun b q h=>by cases h),m.grown.w,m.grown.d⟩
      old:=fun q o hq hw=>by
       have hne:q ≠ r:=by omega
       simp only [C',if_neg hne]
       exact m.old q o hq hw
      box:=fun b x q _ h=>by cases h }
    ·intro t x ht
     by_cases hts:t=s
     ·subst hts
      rw [look_cons_eq] at ht
      cases ht
      refine ⟨_,hv1,?_,fun h=>by simp at h⟩
      have hrow:RepRow C' r sz (rowsOf sz len (cs.map (·.1))) 0:=by
       refine rowsOf_rep b0 (by rw [List.length_map]; exact b1.symm) (fun x hx=>?_) fun j x hx=>?_
       ·obtain ⟨c,hc,rfl⟩:=List.mem_map.1 hx; exact (hpl c hc).2
       ·simp only [List.getElem?_map,Option.map_eq_some_iff] at hx
        obtain ⟨c,hc,rfl⟩:=hx
        obtain ⟨u,q1,_,q3⟩:=hcell j c hc
        exact ⟨u,by simpa using q1,RepI.shift 0 hle (fun b q hb=>by omega) q3 (hpl c (List.mem_of_getElem? hc)).1⟩
      have:=RepI.list (C:=C') sz (rowsOf sz len (cs.map (·.1))) r 0 cap (by rw [rowsOf_length]; exact hl) hrow
      rw [rowsOf_length] at this
      exact this
     ·rw [look_cons_ne hts] at ht
      obtain ⟨u,q1,q2,q3⟩:=e t x ht
      have hmem:=List.all_eq_true.1 b3 _ (look_mem ht)
      have hpx:below 0 x.1=true:=by
       simp only [Bool.or_eq_true] at hmem
       rcases hmem with h | h
       ·exact absurd (Nat.eq_of_beq_eq_true h) hts
       ·exact h
      refine ⟨u,q1,RepI.shift 0 hle (fun b q hb=>by omega) q2 hpx,fun ho=>?_⟩
      exact (q3 ho).closeUp (fun b h=>by cases h) rfl fun q hq o ho'=>by
       have hne:q ≠ r:=fun hh=>hq 0 (by rw [hh]; exact hβ)
       simp only [C',if_neg hne]
       exact ho'
 ·cases ht
theorem StI.gc {P:Program} {w0:World} {K:Nat→Nat→Option Value} {nt n:Nat} {st:ASt} {a:Act} {w:World} (h:StI P w0 K nt st a w):StI P w0 K nt (Abs.gc n st) a w:=by
 obtain ⟨h1,C',ω',h2,h3,h4⟩:=h
 unfold Abs.gc
 cases hb:Nat.ble st.heap.length n with
 | true=>exact ⟨h1,C',ω',h2,h3,h4⟩
 | false=>
  simp only [cond_false]
  cases hb2:(belowEnv n st.env && belowHeap n (st.heap.take n)) with
  | false=>exact ⟨h1,C',ω',h2,h3,h4⟩
  | true=>
   simp only [cond_true]
   simp only [Bool.and_eq_true] at hb2
   have hn:n≤st.heap.length:=by
    rcases Nat.lt_or_ge n st.heap.length with h | h
    ·omega
    ·rw [Nat.ble_eq_true_of_le h] at hb; cases hb
   exact ⟨h1,C'.cut n,ω',⟨h2.choose,h2.choose_spec.1,h2.choose_spec.2.1,h2.choose_spec.2.2⟩,h3.gc hn hb2.2 (fun b r h=>by cases h),h4.cut hb2.1⟩
theorem exitThenI {P:Program} {J:Act→World→Prop} {w0:World} {K:Nat→Nat→Option Value} {nt:Nat} {x:AExit} {st':ASt} {Q:Exit→Act→World→Prop} {e:Exit} {a:Act} {w:World} (h:PostI P w0 K nt x st' e a w) (hn:x=.normal→StI P w0 K nt st' a w→J a w) (ho:x ≠ .normal→StI P w0 K nt st' a w→Q (exOf x) a w):Exit.then J Q e a w:=by
 obtain ⟨rfl,h⟩:=h
 cases x with
 | normal=>exact hn rfl h
 | exit id=>exact ho (by simp) h
 | ret=>exact ho (by simp) h
theorem comp_seq {P:Program} {nt:Nat} {c:Code} {x y:ACode} (hc:Comp P nt c (.seq x y)) (hs:isSkip y=false):∃ c1 c2,c=.seq c1 c2∧Comp P nt c1 x∧Comp P nt c2 y:=by
 obtain ⟨hh,h⟩:=hc
 cases c with
 | seq c1 c2=>
  simp only [cCode] at h
  split at h
  ·rename_i x1 x2 k1 k2
   cases h
   exact ⟨c1,c2,rfl,⟨hh,k1⟩,⟨hh,k2⟩⟩
  ·cases h
 | scope b=>
  simp only [cCode,Option.map_eq_some_iff,ACode.seq.injEq] at h
  obtain ⟨b',k1,rfl,rfl⟩:=h
  simp [isSkip] at hs
 | region id ops draw=>
  simp only [cCode] at h
  split at h
  ·cases h
  ·unfold cRegion at h
   split at h
   ·split at h <;> cases h
   ·cases h
 | cond x c1 c2=>
  simp only [cCode] at h
  split at h <;> cases h
 | rangeFunc f ps x1 x2=>
  simp only [cCode] at h
  split at h
  ·split at h <;> cases h
  ·cases h
 | block id b=>simp [cCode] at h
 | loop b=>simp [cCode] at h
 | _=>simp [cCode] at h
theorem comp_cond {P:Program} {nt:Nat} {c:Code} {v:AOpd} {x y:ACode} (hc:Comp P nt c (.cond v x y)):∃ u c1 c2,c=.cond u c1 c2∧cOpd u=some v∧Comp P nt c1 x∧Comp P nt c2 y:=by
 obtain ⟨hh,h⟩:=hc
 cases c with
 | cond u c1 c2=>
  simp only [cCode] at h
  split at h
  ·rename_i v' x1 x2 k0 k1 k2
   cases h
   exact ⟨u,c1,c2,rfl,k0,⟨hh,k1⟩,⟨hh,k2⟩⟩
  ·cases h
 | region id ops draw=>
  simp only [cCode] at h
  split at h
  ·cases h
  ·unfold cRegion at h
   split at h
   ·split at h <;> cases h
   ·cases h
 | seq c1 c2=>
  simp only [cCode] at h
  split at h <;> cases h
 | rangeFunc f ps x1 x2=>
  simp only [cCode] at h
  split at h
  ·split at h <;> cases h
  ·cases h
 | scope b=>simp [cCode] at h
 | block id b=>simp [cCode] at h
 | loop b=>simp [cCode] at h
 | _=>simp [cCode] at h
theorem comp_block {P:Program} {nt id:Nat} {c:Code} {x:ACode} (hc:Comp P nt c (.block id x)):∃ c1,c=.block id c1∧Comp P nt c1 x:=by
 obtain ⟨hh,h⟩:=hc
 cases c with
 | block id' b=>
  simp only [cCode,Option.map_eq_some_iff,ACode.block.injEq] at h
  obtain ⟨b',k1,rfl,rfl⟩:=h
  exact ⟨b,rfl,hh,k1⟩
 | region id ops draw=>
  simp only [cCode] at h
  split at h
  ·cases h
  ·unfold cRegion at h
   split at h
   ·split at h <;> cases h
   ·cases h
 | seq c1 c2=>
  simp only [cCode] at h
  split at h <;> cases h
 | cond x c1 c2=>
  simp only [cCode] at h
  split at h <;> cases h
 | rangeFunc f ps x1 x2=>
  simp only [cCode] at h
  split at h
  ·split at h <;> cases h
  ·cases h
 | scope b=>simp [cCode] at h
 | loop b=>simp [cCode] at h
 | _=>simp [cCode] at h
theorem comp_loop {P:Program} {nt:Nat} {c:Code} {x:ACode} (hc:Comp P nt c (.loop x)):∃ c1,c=.loop c1∧Comp P nt c1 x:=by
 obtain ⟨hh,h⟩:=hc
 cases c with
 | loop b=>
  simp only [cCode,Option.map_eq_some_iff,ACode.loop.injEq] at h
  obtain ⟨b',k1,rfl⟩:=h
  exact ⟨b,rfl,hh,k1⟩
 | region id ops draw=>
  simp only [cCode] at h
  split at h
  ·cases h
  ·unfold cRegion at h
   split at h
   ·split at h <;> cases h
   ·cases h
 | seq c1 c2=>
  simp only [cCode] at h
  split at h <;> cases h
 | cond x c1 c2=>
  simp only [cCode] at h
  split at h <;> cases h
 | rangeFunc f ps x1 x2=>
  simp only [cCode] at h
  split at h
  ·split at h <;> cases h
  ·cases h
 | scope b=>simp [cCode] at h
 | block id b=>simp [cCode] at h
 | _=>simp [cCode] at h
theorem G_ok {P:Program} {p:AProg} (hp:ProgOk P p) {nt:Nat} {K:Nat→Nat→Option Value} {w0:World} (hK:∀ r o u,K r o=some u→w0.cell? ⟨r,o,none⟩=some u) {g:GCode} {st st':ASt} {x:AExit} (h:GRun p g st x st'):
  (∀ c,Comp P nt c g.erase→∀ (a:Act) (w:World),StI P w0 K nt st a w→c.wpIn (wideAt none) 0 P (PostI P w0 K nt x st') a w) ∧
  (∀ b,g=.loop b→∀ c,Comp P nt c b.erase→∀ (a:Act) (w:World),StI P w0 K nt st a w→LoopWp none P c (PostI P w0 K nt x st') a w):=by
 have ofLoop:∀ {b:GCode} {st st':ASt} {x:AExit},(∀ c,Comp P nt c b.erase→∀ (a:Act) (w:World),StI P w0 K nt st a w→LoopWp none P c (PostI P w0 K nt x st') a w) →
   (∀ c,Comp P nt c (GCode.loop b).erase→∀ (a:Act) (w:World),StI P w0 K nt st a w→c.wpIn (wideAt none) 0 P (PostI P w0 K nt x st') a w) ∧
   (∀ b',GCode.loop b=.loop b'→∀ c,Comp P nt c b'.erase→∀ (a:Act) (w:World),StI P w0 K nt st a w→LoopWp none P c (PostI P w0 K nt x st') a w):=by
  intro b st st' x h
  refine ⟨fun c hc a w hst=>?_,fun b' hb=>by cases hb; exact h⟩
  obtain ⟨c1,rfl,k1⟩:=comp_loop hc
  exact (h c1 k1 a w hst).wpIn
 induction h with
 | code hc=>
  refine ⟨fun c hcp a w hst=>?_,fun b hb=>by cases hb⟩
  obtain ⟨hsz,C',ω',hm,m,e⟩:=hst
  refine wpIn_mono (codeX_ok hp none nt c _ _ _ _ hcp (fun h=>absurd rfl h) hc C' w0 (.iso K) a w ⟨hsz,C',ω',Ctx.le_refl _,hm,m,e⟩) ?_
  rintro e a' w' ⟨rfl,hq⟩
  exact ⟨rfl,hq.toI⟩
 | seqN hs h k ih1 ih2=>
  refine ⟨fun c hcp a w hst=>?_,fun b hb=>by cases hb⟩
  obtain ⟨c1,c2,rfl,k1,k2⟩:=comp_seq hcp hs
  exact wpIn_seq (wpIn_mono (ih1.1 c1 k1 a w hst) fun e a' w' hq=>exitThenI hq (fun _ h1=>ih2.1 c2 k2 a' w' h1) (fun hh=>absurd rfl hh))
 | seqX hs h hx ih1=>
  refine ⟨fun c hcp a w hst=>?_,fun b hb=>by cases hb⟩
  obtain ⟨c1,c2,rfl,k1,k2⟩:=comp_seq hcp hs
  exact wpIn_seq (wpIn_mono (ih1.1 c1 k1 a w hst) fun e a' w' hq=>exitThenI hq (fun hh=>absurd hh hx) (fun _ h1=>⟨rfl,h1⟩))
 | condT hc h ih=>
  refine ⟨fun c hcp a w hst=>?_,fun b hb=>by cases hb⟩
  obtain ⟨u,c1,c2,rfl,k0,k1,k2⟩:=comp_cond hcp
  have hst':=hst
  obtain ⟨_,_,_,_,_,e⟩:=hst
  exact wpIn_cond (t:=true) (opd_rep e.rep k0 hc).bool_inv (ih.1 c1 k1 a w hst')
 | condF hc h ih=>
  refine ⟨fun c hcp a w hst=>?_,fun b hb=>by cases hb⟩
  obtain ⟨u,c1,c2,rfl,k0,k1,k2⟩:=comp_cond hcp
  have hst':=hst
  obtain ⟨_,_,_,_,_,e⟩:=hst
  exact wpIn_cond (t:=false) (opd_rep e.rep k0 hc).bool_inv (ih.1 c2 k2 a w hst')
 | blockE h ih=>
  refine ⟨fun c hcp a w hst=>?_,fun b hb=>by cases hb⟩
  obtain ⟨c1,rfl,k1⟩:=comp_block hcp
  refine wpIn_block (wpIn_mono (ih.1 c1 k1 a w hst) ?_)
  rintro e a' w' ⟨rfl,hst1⟩
  simp only [exOf,Exit.inBlock,if_true]
  exact ⟨rfl,hst1⟩
 | blockX h hx ih=>
  refine ⟨fun c hcp a w hst=>?_,fun b hb=>by cases hb⟩
  obtain ⟨c1,rfl,k1⟩:=comp_block hcp
  refine wpIn_block (wpIn_mono (ih.1 c1 k1 a w hst) ?_)
  rename_i id _ _ x _
  rintro e a' w' ⟨rfl,hst1⟩
  cases x with
  | normal=>exact ⟨rfl,hst1⟩
  | ret=>exact ⟨rfl,hst1⟩
  | exit id'=>
   have hne:¬ id'=id:=fun hh=>hx (by rw [hh])
   simp only [exOf,Exit.inBlock,hne,if_false]
   exact ⟨rfl,hst1⟩
 | loopN h k ih1 ih2=>
  refine ofLoop fun c hc a w hst=>LoopWp.of_body (wpIn_mono (ih1.1 c hc a w hst) fun e a' w' hq=>exitThenI hq (fun _ h1=>?_) (fun hh=>absurd rfl hh))
  exact ih2.2 _ rfl c hc a' w' h1.gc
 | loopX h hx ih1=>
  exact ofLoop fun c hc a w hst=>LoopWp.of_body (wpIn_mono (ih1.1 c hc a w hst) fun e a' w' hq=>exitThenI hq (fun hh=>absurd hh hx) (fun _ h1=>⟨rfl,h1⟩))
 | thaw ht h ih=>exact ⟨fun c hcp a w hst=>ih.1 c hcp a w (thawAt_ok hK ht hst),fun b hb=>by cases hb⟩
 | shut ht h ih=>exact ⟨fun c hcp a w hst=>ih.1 c hcp a w (sealAt_ok hK ht hst),fun b hb=>by cases hb⟩
theorem callG_ok {P:Program} {p:AProg} (hp:ProgOk P p) {k:Nat} {f:AFun} {g:GCode} {args:List AVal} {st:ASt} {x:AExit} {v:AVal} {xs:List (AVal × Bool)} (hf:p.fns k=some f) (hg:f.body=g.erase) (hlen:args.length≤f.ntmps)
  (hrun:GRun p g ⟨argEnv 0 args,[]⟩ x st) (hx:x=.normal∨x=.ret) (hres:resultsOf st f.results=some xs) (hfz:freezeR (clearRes st f.results) (packResults xs).1=some v) (hpv:pureV v=true):IsoCall P k args v false:=by
 obtain ⟨fn,hh,hfn,hcf⟩:=hp.fn k f hf
 obtain ⟨c,hbd,h1,h2,h3,_⟩:=cFun_inv hcf
 intro K w vs ht hK hK1 hargs
 have m0:=minv_iso (P:=P) ht hK hK1
 have hvl:=hargs.length
 refine callsIn_of_wp_marks hfn hbd trivial ?_
 have hsz:((⟨vs⟩:Array Value)++Array.replicate (fn.ntmps - (⟨vs⟩:Array Value).size) undef).size=fn.ntmps:=by
  simp; omega
 have henv:EnvRel (.iso K) (fun _=>none) w w.heap.size (argEnv 0 args) ((⟨vs⟩:Array Value)++Array.replicate (fn.ntmps - (⟨vs⟩:Array Value).size) undef):=by
  intro s x hx
  obtain ⟨j,rfl,hj,hf⟩:=argEnv_look hx
  obtain ⟨u,k1,k2⟩:=hargs.get hj
  have hlt:j < vs.length:=(List.getElem?_eq_some_iff.1 k1).1
  refine ⟨u,?_,k2,by simp [hf]⟩
  rw [Nat.zero_add,Array.getElem?_append_left (by simpa using hlt)]
  simpa using k1
 refine wpIn_mono ((G_ok hp (nt:=fn.ntmps) (K:=K) (w0:=w) hK hrun).1 c ⟨hh,by rw [← hg]; exact h1⟩ _ w ⟨hsz,.iso K,_,Marks.nil,m0,henv⟩) ?_
 rintro e a' w' ⟨rfl,q1,C',ω',⟨rs,hds,hnd,hrs⟩,m',e'⟩
 have fin:LeavesInM Fence.wide 0 P fn a'.tmps (fun e w'=>∃ u K',e=.returned u∧Ext w w'∧(∀ r o x,K r o=some x→K' r o=some x)∧(∀ r o,r < w.heap.size→K' r o=K r o) ∧
   (∀ r o x,K' r o=some x→w'.cell? ⟨r,o,none⟩=some x)∧(∀ r o x,K' r o=some x→x.oneCell'=true)∧Rep (.iso K') v u ∧
   (false=true→∃ ℓ ω',OwnV (.iso K') ω' w' w.heap.size ℓ v u)) a'.defers .returning w':=by
  rw [hds]
  refine leaves_ok (C:=.iso K) (ω:=ω') (w0:=w) (hp:=st.heap) (env:=st.env) rs C' w' m'.grown m' e' hnd hrs (fun k hk=>hk.elim) ?_
  intro C2 w2 hle2 _ m2 e2
  obtain ⟨u,ω2,k1,k2,k3,k4⟩:=results_run (fn:=fn) m2 e2 h2 hres
  refine ⟨u,k1,u,promote C2 w2,rfl,?_,fun r o x hr=>promote_le k2 (hle2.1 r o x hr),fun r o hr=>?_,fun r o x hr=>(promote_know k2 hr).1,fun r o x hr=>(promote_know k2 hr).2,freezeR_rep k2 hfz k3 hpv,fun h=>by cases h⟩
  ·exact ⟨k2.size,fun r hr=>k2.frame r hr (by simp [Ctx.iso]) (by simp [Ctx.iso]),k2.os,k2.output⟩
  ·have hold:=k2.old r o hr (by simp [Ctx.iso])
   unfold promote
   rw [if_neg]
   ·exact hold
   rintro ⟨b,hb⟩
   rcases k2.fresh b r hb with h | h | h
   ·cases h
   ·omega
   ·exact h.elim
 rcases hx with rfl | rfl
 ·exact fin
 ·exact fin
end Go.Abs
/-
 Library functions by contract: calls in a heap of their own,out of the kit's contracts.
-/
namespace Go.Abs
section
variable {P:Program}
theorem Tabs.table {w:World} (h:Tabs P w) {g:Nat} (hg:P.globalNamed tabName=some g):Lib.TabIs P w tabName .u64 Lib.pow10Tab:=(h g (.inl hg)).2.1 hg
theorem Tabs.length {w:World} (h:Tabs P w) {g:Nat} (hg:P.globalNamed lenName=some g):∃ m,w.cell? ⟨g,0,Option.none⟩=some (.int .i64 m):=(h g (.inr (.inl hg))).2.2.1 hg
theorem iso_plain {k:Nat} {args:List AVal} {v:AVal} (h:∀ (K:Nat→Nat→Option Value) (w:World) (vs:List Value),Tabs P w→(∀ r o u,K r o=some u→w.cell? ⟨r,o,none⟩=some u)→RepL (.iso K) args vs →
  ∃ u,Rep (.iso K) v u∧Calls P k ⟨vs⟩ w fun e w'=>e=.returned u∧Ext w w'):IsoCall P k args v false:=by
 intro K w vs ht h1 h2 hr
 obtain ⟨u,hu,hc⟩:=h K w vs ht h1 hr
 refine callsIn_wide.2 (hc.mono ?_)
 rintro e w' ⟨rfl,hx⟩
 exact ⟨u,K,rfl,hx,fun _ _ _ h=>h,fun _ _ _=>rfl,fun r o x hk=>hx.cell (h1 r o x hk),h2,hu,fun h=>by cases h⟩
theorem rowP_of {C:Ctx} {r:Nat}:∀ {xs:List AVal} {us:List Value} {o:Nat},RepL C xs us→(∀ x∈xs,x.flat=[x])→(∀ (j:Nat) u,us[j]?=some u→C.K r (o + j)=some u)→RepRow C r 1 xs o
 | [],_,o,_,_,_=>.rnil _ _ _
 | x::xs,us,o,h,hf,hk=>by
  cases h with
  | cons _ _ u us hx hr=>
   have hx1:=hf x (List.mem_cons_self ..)
   refine .rcons _ _ _ _ _ (by rw [hx1]; rfl) ?_ (rowP_of hr (fun y hy=>hf y (List.mem_cons_of_mem _ hy)) fun j u hj=>?_)
   ·rw [hx1]
    exact .ccons _ _ _ _ u (by have:=hk 0 u rfl; simpa using this) hx (.cnil _ _)
   ·have:=hk (j + 1) u (by simpa using hj)
    rw [show o + 1 + j=o + (j + 1) by omega]
    exact this
theorem iso_list {k:Nat} {args:List AVal} {xs:List AVal} {us:List Value} {t:TypeId} (hf:∀ x∈xs,x.flat=[x]) (hus:∀ K,RepL (.iso K) xs us) (h1u:∀ u∈us,u.oneCell'=true)
  (h:∀ (K:Nat→Nat→Option Value) (w:World) (vs:List Value),Tabs P w→(∀ r o u,K r o=some u→w.cell? ⟨r,o,none⟩=some u)→RepL (.iso K) args vs →
  Calls P k ⟨vs⟩ w fun e w'=>e=.returned (.slice (some ⟨w.heap.size,0,none⟩) xs.length xs.length)∧w'=w.alloc (.cells us.toArray t)):IsoCall P k args (.list false 1 xs) false:=by
 intro K w vs ht h1 h2 hr
 refine callsIn_wide.2 ((h K w vs ht h1 hr).mono ?_)
 rintro e w' ⟨rfl,rfl⟩
 have hx:Ext w (w.alloc (.cells us.toArray t)):=Ext.alloc w _ (fun c t fr h=>by cases h; rfl)
 have hno:∀ o u,K w.heap.size o=some u→False:=fun o u hk=>by
  have:=h1 _ _ _ hk
  simp only [World.cell?,Array.getElem?_eq_none (Nat.le_refl _)] at this
  cases this
 refine ⟨_,fun r o=>if r=w.heap.size then us[o]? else K r o,rfl,hx,?_,?_,?_,?_,?_,fun h=>by cases h⟩
 ·intro r o x hk
  have hne:r ≠ w.heap.size:=fun e=>hno o x (e ▸ hk)
  simp only [if_neg hne]; exact hk
 ·intro r o hlt
  have hne:r ≠ w.heap.size:=by omega
  simp only [if_neg hne]
 ·intro r o x hk
  simp only [] at hk
  split at hk
  ·next hr=>
   subst hr
   have hg:(w.alloc (.cells us.toArray t)).heap[w.heap.size]?=some (.cells us.toArray t):=by rw [alloc_get,if_pos rfl]
   simp only [World.cell?]
   rw [hg]
   simpa using hk
  ·exact hx.cell (h1 r o x hk)
 ·intro r o x hk
  simp only [] at hk
  split at hk
  ·exact h1u x (List.mem_of_getElem? hk)
  ·exact h2 r o x hk
 ·refine .list _ _ _ _ _ (Nat.le_refl _) (rowP_of (hus _) hf fun j u hj=>?_)
  show (if w.heap.size=w.heap.size then us[0 + j]? else K w.heap.size (0 + j))=some u
  rw [if_pos rfl,Nat.zero_add]; exact hj
end
end Go.Abs
/-
 Tables of calls: a program some of whose functions are looked up by their arguments.
-/
namespace Go.Abs
open Go
def eqBytes:List UInt8→List UInt8→Bool
 | [],[]=>true
 | a::l,b::m=>bif Nat.beq a.toNat b.toNat then eqBytes l m else false
 | _,_=>false
theorem eqBytes_sound:∀ {l m:List UInt8},eqBytes l m=true→l=m
 | [],[],_=>rfl
 | [],_::_,h=>by simp [eqBytes] at h
 | _::_,[],h=>by simp [eqBytes] at h
 | a::l,b::m,h=>by
  simp only [eqBytes,Bool.cond_eq_ite] at h
  split at h
  ·next hb=>rw [UInt8.toNat_inj.1 (Nat.eq_of_beq_eq_true hb),eqBytes_sound h]
  ·exact absurd h (by simp)
def eqInt:Int→Int→Bool
 | .ofNat a,.ofNat b=>Nat.beq a b
 | .negSucc a,.negSucc b=>Nat.beq a b
 | _,_=>false
theorem eqInt_sound:∀ {a b:Int},eqInt a b=true→a=b
 | .ofNat _,.ofNat _,h=>by rw [Nat.eq_of_beq_eq_true h]
 | .negSucc _,.negSucc _,h=>by rw [Nat.eq_of_beq_eq_true h]
 | .ofNat _,.negSucc _,h=>by simp [eqInt] at h
 | .negSucc _,.ofNat _,h=>by simp [eqInt] at h
mutual
def eqV:AVal→AVal→Bool
 | .bool a,.bool b=>a == b
 | .int k a,.int k' b=>bif decide (k=k') then eqInt a b else false
 | .str a,.str b=>eqBytes a b
 | .list a n xs,.list b m ys=>bif a == b then bif Nat.beq n m then eqL xs ys else false else false
 | .agg xs,.agg ys=>eqL xs ys
 | .tup xs,.tup ys=>eqL xs ys
 | _,_=>false
def eqL:List AVal→List AVal→Bool
 | [],[]=>true
 | a::l,b::m=>bif eqV a b then eqL l m else false
 | _,_=>false
end
mutual
theorem eqV_sound:∀ {a b:AVal},eqV a b=true→a=b:=by
 intro a b h
 match a,b with
 | .bool _,.bool _=>simp only [eqV,beq_iff_eq] at h; rw [h]
 | .int k a,.int k' b=>
  simp only [eqV,Bool.cond_eq_ite,decide_eq_true_eq] at h
  split at h
  ·next hk=>rw [hk,eqInt_sound h]
  ·exact absurd h (by simp)
 | .str _,.str _=>simp only [eqV] at h; rw [eqBytes_sound h]
 | .list a n xs,.list b m ys=>
  simp only [eqV,Bool.cond_eq_ite,beq_iff_eq] at h
  split at h
  ·next h1=>
   split at h
   ·next h2=>rw [h1,Nat.eq_of_beq_eq_true h2,eqL_sound h]
   ·exact absurd h (by simp)
  ·exact absurd h (by simp)
 | .agg _,.agg _=>simp only [eqV] at h; rw [eqL_sound h]
 | .tup _,.tup _=>simp only [eqV] at h; rw [eqL_sound h]
 | .bool _,.int .. | .bool _,.str _ | .bool _,.list .. | .bool _,.agg _ | .bool _,.tup _=>simp [eqV] at h
 | .int ..,.bool _ | .int ..,.str _ | .int ..,.list .. | .int ..,.agg _ | .int ..,.tup _=>simp [eqV] at h
 | .str _,.bool _ | .str _,.int .. | .str _,.list .. | .str _,.agg _ | .str _,.tup _=>simp [eqV] at h
 | .list ..,.bool _ | .list ..,.int .. | .list ..,.str _ | .list ..,.agg _ | .list ..,.tup _=>simp [eqV] at h
 | .agg _,.bool _ | .agg _,.int .. | .agg _,.str _ | .agg _,.list .. | .agg _,.tup _=>simp [eqV] at h
 | .tup _,.bool _ | .tup _,.int .. | .tup _,.str _ | .tup _,.list .. | .tup _,.agg _=>simp [eqV] at h
 | .ms ..,_ | .ptr ..,_ | .vptr _,_ | .nilptr,_ | .map _,_ | .nilmap,_ | .fn ..,_ | .nilfn,_ | .undef,_=>simp [eqV] at h
 | .bool _,.ms .. | .bool _,.ptr .. | .bool _,.vptr _ | .bool _,.nilptr | .bool _,.map _ | .bool _,.nilmap | .bool _,.fn .. | .bool _,.nilfn | .bool _,.undef=>simp [eqV] at h
 | .int ..,.ms .. | .int ..,.ptr .. | .int ..,.vptr _ | .int ..,.nilptr | .int ..,.map _ | .int ..,.nilmap | .int ..,.fn .. | .int ..,.nilfn | .int ..,.undef=>simp [eqV] at h
 | .str ..,.ms .. | .str ..,.ptr .. | .str ..,.vptr _ | .str ..,.nilptr | .str ..,.map _ | .str ..,.nilmap | .str ..,.fn .. | .str ..,.nilfn | .str ..,.undef=>simp [eqV] at h
 | .list ..,.ms .. | .list ..,.ptr .. | .list ..,.vptr _ | .list ..,.nilptr | .list ..,.map _ | .list ..,.nilmap | .list ..,.fn .. | .list ..,.nilfn | .list ..,.undef=>simp [eqV] at h
 | .agg ..,.ms .. | .agg ..,.ptr .. | .agg ..,.vptr _ | .agg ..,.nilptr | .agg ..,.map _ | .agg ..,.nilmap | .agg ..,.fn .. | .agg ..,.nilfn | .agg ..,.undef=>simp [eqV] at h
 | .tup ..,.ms .. | .tup ..,.ptr .. | .tup ..,.vptr _ | .tup ..,.nilptr | .tup ..,.map _ | .tup ..,.nilmap | .tup ..,.fn .. | .tup ..,.nilfn | .tup ..,.undef=>simp [eqV] at h
theorem eqL_sound:∀ {l m:List AVal},eqL l m=true→l=m:=by
 intro l m h
 match l,m with
 | [],[]=>rfl
 | [],_::_=>simp [eqL] at h
 | _::_,[]=>simp [eqL] at h
 | a::l,b::m=>
  simp only [eqL,Bool.cond_eq_ite] at h
  split at h
  ·next h1=>rw [eqV_sound h1,eqL_sound h]
  ·exact absurd h (by simp)
end
abbrev Row:=List AVal × AVal × Bool
def lookRow (args:List AVal):List Row→Option (AVal × Bool)
 | []=>none
 | r::l=>bif eqL r.1 args then some r.2 else lookRow args l
theorem lookRow_mem {args:List AVal} {x:AVal × Bool}:∀ {l:List Row},lookRow args l=some x→(args,x)∈l
 | [],h=>by simp [lookRow] at h
 | r::l,h=>by
  simp only [lookRow,Bool.cond_eq_ite] at h
  split at h
  ·next hb=>
   simp only [Option.some.injEq] at h
   rw [← eqL_sound hb,← h]
   exact List.mem_cons_self ..
  ·exact List.mem_cons_of_mem _ (lookRow_mem h)
def tabPrims (tab:Nat→Option (List Row)):Prims:=fun k=>(tab k).map fun l args=>lookRow args l
def TabOk (P:Program) (tab:Nat→Option (List Row)):Prop:=
 ∀ k l,tab k=some l→∀ r∈l,IsoCall P k r.1 r.2.1 r.2.2
def lookTab:List (Nat × List Row)→Nat→Option (List Row)
 | [],_=>none
 | (k,l)::t,n=>bif Nat.beq k n then some l else lookTab t n
def RowsAll (P:Program) (k:Nat):List Row→Prop
 | []=>True
 | r::l=>IsoCall P k r.1 r.2.1 r.2.2∧RowsAll P k l
def TabAll (P:Program):List (Nat × List Row)→Prop
 | []=>True
 | (k,l)::t=>RowsAll P k l∧TabAll P t
theorem rows_mem {P:Program} {k:Nat}:∀ {l:List Row},RowsAll P k l→∀ r∈l,IsoCall P k r.1 r.2.1 r.2.2
 | r::l,h,x,hx=>by
  cases hx with
  | head=>exact h.1
  | tail _ hx=>exact rows_mem h.2 x hx
theorem tab_ok {P:Program}:∀ {t:List (Nat × List Row)},TabAll P t→TabOk P (lookTab t)
 | (j,m)::t,h,k,l,hk=>by
  simp only [lookTab,Bool.cond_eq_ite] at hk
  split at hk
  ·next hb=>
   rw [Nat.eq_of_beq_eq_true hb] at h
   simp only [Option.some.injEq] at hk
   subst hk
   exact rows_mem h.1
  ·exact tab_ok h.2 k l hk
theorem progOk_tab {P:Program} {t:FTree} {tab:Nat→Option (List Row)} {M:Maps} (h:ProgOk P (t.prog (fun _=>none) M)) (ht:TabOk P tab) (he:∀ k l,tab k=some l→Enters P k):ProgOk P (t.prog (tabPrims tab) M) where
 fn:=h.fn
 prim:=by
  intro k f hf
  simp only [FTree.prog,tabPrims,Option.map_eq_some_iff] at hf
  obtain ⟨l,hl,rfl⟩:=hf
  refine ⟨he k l hl,fun args v o hv _ _=>ht k l hl _ (lookRow_mem hv)⟩
 mixed:=h.mixed
 maps:=h.maps
theorem map_of_run {P:Program} {p:AProg} (h:ProgOk P p) {n k b:Nat} {ow:Bool} {h1:Heap} {es:List (AVal × AVal)} (hr:callFn p (xcodeF p n) k [] []=some (.map b,ow,h1)) (hb:h1[b]?=some (.map es)) (he:belowEntries 0 es=true):Enters P k∧MapCall P k es:=
 mapCall_ok h (CodeOk.of' (code_ok h n).1) (by rw [← xcodeF_eq]; exact hr) hb he
theorem iso_of_run {P:Program} {p:AProg} (h:ProgOk P p) {n k:Nat} {args:List AVal} {v:AVal} {o:Bool} (hr:callIso p (xcodeF p n) k args=some (v,o)) (hb:belowL 0 args=true:=by rfl):IsoCall P k args v o:=
 call_ok h (callIso_F hr) hb
end Go.Abs
