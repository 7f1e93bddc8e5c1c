/-
  Equations of the executor for runs on values that are not known: one step each, what comes behind stays closed until its state is there.
-/
import Derived.Test.YtnjngdcbkkonnaaGreatDoorAbsH
set_option linter.unusedVariables false
set_option linter.unusedSimpArgs false
namespace Go.Abs
section
variable {p:AProg} {xc:XC} {h0:Nat} {al:Option (List Nat)} {e:Env} {h:Heap}
def thenX (r:Option (AExit × ASt)) (f:ASt→Option (AExit × ASt)):Option (AExit × ASt):=match r with
 | some (.normal,st)=>f st
 | r=>r
@[go_sem] theorem thenX_normal {st:ASt} {f:ASt→Option (AExit × ASt)}:thenX (some (.normal,st)) f=f st:=rfl
@[go_sem] theorem thenX_ret {st:ASt} {f:ASt→Option (AExit × ASt)}:thenX (some (.ret,st)) f=some (.ret,st):=rfl
@[go_sem] theorem thenX_exit {id:Nat} {st:ASt} {f:ASt→Option (AExit × ASt)}:thenX (some (.exit id,st)) f=some (.exit id,st):=rfl
@[go_sem] theorem X_seq' {a b:ACode} {st:ASt}:X p (.seq a b) st=thenX (X p a st) (X p b):=by
 rw [X_seq]; unfold thenX
 cases X p a st with
 | none=>rfl
 | some r=>obtain ⟨x,s⟩:=r; cases x <;> rfl
def condX (c:Option AVal) (f g:ASt→Option (AExit × ASt)) (st:ASt):Option (AExit × ASt):=match c with
 | some (.bool true)=>f st
 | some (.bool false)=>g st
 | _=>none
@[go_sem] theorem condX_true {f g:ASt→Option (AExit × ASt)} {st:ASt}:condX (some (.bool true)) f g st=f st:=rfl
@[go_sem] theorem condX_false {f g:ASt→Option (AExit × ASt)} {st:ASt}:condX (some (.bool false)) f g st=g st:=rfl
@[go_sem] theorem X_cond' {c:AOpd} {a b:ACode} {st:ASt}:X p (.cond c a b) st=condX (evalO st.env c) (X p a) (X p b) st:=by
 rw [X_cond]; unfold condX
 cases evalO st.env c with
 | none=>rfl
 | some v=>cases v with
  | bool t=>cases t <;> rfl
  | _=>rfl
def blockX (id:Nat) (r:Option (AExit × ASt)):Option (AExit × ASt):=match r with
 | some (.exit id',st')=>if id'=id then some (.normal,st') else some (.exit id',st')
 | r=>r
@[go_sem] theorem blockX_exit {id id':Nat} {st:ASt}:blockX id (some (.exit id',st))=if id'=id then some (.normal,st) else some (.exit id',st):=rfl
@[go_sem] theorem blockX_normal {id:Nat} {st:ASt}:blockX id (some (.normal,st))=some (.normal,st):=rfl
@[go_sem] theorem blockX_ret {id:Nat} {st:ASt}:blockX id (some (.ret,st))=some (.ret,st):=rfl
@[go_sem] theorem X_block' {id:Nat} {b:ACode} {st:ASt}:X p (.block id b) st=blockX id (X p b st):=by
 rw [X_block]; unfold blockX
 cases X p b st with
 | none=>rfl
 | some r=>
  obtain ⟨x,s⟩:=r
  cases x with
  | exit id'=>
   simp only []
   by_cases hb:id'=id
   ·subst hb; simp
   ·rw [if_neg hb]
    cases hq:Nat.beq id' id with
    | true=>exact absurd (Nat.eq_of_beq_eq_true hq) hb
    | false=>rfl
  | _=>rfl
noncomputable def loopX (p:AProg) (b:ACode) (n:Nat) (r:Option (AExit × ASt)):Option (AExit × ASt):=match r with
 | some (.normal,st')=>X p (.loop b) (gc n st')
 | r=>r
theorem X_loop' {b:ACode} {st:ASt}:X p (.loop b) st=loopX p b st.heap.length (X p b st):=by
 rw [X_loop]; unfold loopX
 cases X p b st with
 | none=>rfl
 | some r=>obtain ⟨x,s⟩:=r; cases x <;> rfl
@[go_sem] theorem loopX_normal {b:ACode} {n:Nat} {st:ASt}:loopX p b n (some (.normal,st))=X p (.loop b) (gc n st):=rfl
@[go_sem] theorem loopX_ret {b:ACode} {n:Nat} {st:ASt}:loopX p b n (some (.ret,st))=some (.ret,st):=rfl
@[go_sem] theorem loopX_exit {b:ACode} {n id:Nat} {st:ASt}:loopX p b n (some (.exit id,st))=some (.exit id,st):=rfl
attribute [go_sem] X_skip X_exit X_ret X_region X_range X_grow
@[go_sem] theorem gc_nil {env:Env}:gc 0 ⟨env,[]⟩=⟨env,[]⟩:=rfl
theorem gc_same {n:Nat} {st:ASt} (hn:st.heap.length≤n):gc n st=st:=by
 unfold gc; rw [Nat.ble_eq_true_of_le hn]; rfl
theorem gc_at {e e':Env} {h:Heap}:gc (ASt.mk e h).heap.length ⟨e',h⟩=⟨e',h⟩:=gc_same (Nat.le_refl _)
def regX (k:Option (List Nat)) (r:Option ASt):Option (AExit × ASt):=match r with
 | some st'=>some (.normal,keepSt st' k)
 | none=>none
@[go_sem] theorem regX_some {k:Option (List Nat)} {st:ASt}:regX k (some st)=some (.normal,keepSt st k):=rfl
@[go_sem] theorem xregion' {na:Nat} {l:List AOper} {k:Option (List Nat)} {st:ASt}:xregion p xc na l k st=regX k (xops p xc st.heap.length l ⟨st.env,st.heap++List.replicate na .hole⟩):=by
 unfold xregion regX; rfl
def opsX (r:Option ASt) (f:ASt→Option ASt):Option ASt:=match r with
 | some st=>f st
 | none=>none
@[go_sem] theorem opsX_some {st:ASt} {f:ASt→Option ASt}:opsX (some st) f=f st:=rfl
@[go_sem] theorem xops_nil {st:ASt}:xops p xc h0 [] st=some st:=rfl
@[go_sem] theorem xops_cons {o:AOper} {l:List AOper} {st:ASt}:xops p xc h0 (o::l) st=opsX (stepOper p xc h0 o st) (xops p xc h0 l):=rfl
def putR (d:Option Nat) (e:Env) (r:Option ORes):Option ASt:=match r with
 | some r=>some ⟨putEnv (stripEnv e r.strip) d r.v r.own,r.heap⟩
 | none=>none
@[go_sem] theorem putR_some {d:Option Nat} {v:AVal} {o:Bool} {s:Option Nat}:putR d e (some ⟨v,o,s,h⟩)=some ⟨putEnv (stripEnv e s) d v o,h⟩:=rfl
@[go_sem] theorem stepOper_none {d:Option Nat} {op:AOp} {env:Env}:stepOper p xc h0 ⟨d,op,none,al⟩ ⟨env,h⟩=putR d env (stepOp p xc h0 al env h op):=rfl
def guardX (g:Option Bool) (d:Option Nat) (env:Env) (h:Heap) (f:AOp→Option ORes) (op:AOp):Option ASt:=match g with
 | some true=>putR d env (f op)
 | some false=>some ⟨putEnv env d .undef false,h⟩
 | none=>none
@[go_sem] theorem guardX_true {d:Option Nat} {env:Env} {f:AOp→Option ORes} {op:AOp}:guardX (some true) d env h f op=putR d env (f op):=rfl
@[go_sem] theorem guardX_false {d:Option Nat} {env:Env} {f:AOp→Option ORes} {op:AOp}:guardX (some false) d env h f op=some ⟨putEnv env d .undef false,h⟩:=rfl
@[go_sem] theorem stepOper_some {d:Option Nat} {op:AOp} {g:Nat × Bool} {env:Env}:stepOper p xc h0 ⟨d,op,some g,al⟩ ⟨env,h⟩=guardX (guardOf env (some g)) d env h (stepOp p xc h0 al env h) op:=by
 unfold stepOper guardX
 simp only []
 split
 ·rename_i hg; rw [hg]; rfl
 ·rename_i hg; rw [hg]
 ·rename_i hg; rw [hg]
def guardV (b:Bool) (v:Option (AVal × Bool)):Option Bool:=match v with
 | some (.bool c,_)=>some (c == b)
 | some (.undef,_)=>some false
 | _=>none
@[go_sem] theorem guardOf_some {s:Nat} {b:Bool}:guardOf e (some (s,b))=guardV b (look s e):=by
 unfold guardOf guardV; rfl
theorem guardV_bool {b c:Bool} {o:Bool}:guardV b (some (.bool c,o))=some (c == b):=rfl
@[go_sem] theorem guardV_undef {b:Bool} {o:Bool}:guardV b (some (.undef,o))=some false:=rfl
@[go_sem] theorem look_cons {s t:Nat} {x:AVal × Bool}:look t ((s,x)::e)=if s=t then some x else look t e:=by
 by_cases hst:s=t
 ·subst hst; rw [if_pos rfl]; simp [look]
 ·rw [if_neg hst]
  have:Nat.beq s t=false:=by
   cases hb:Nat.beq s t with
   | false=>rfl
   | true=>exact absurd (Nat.eq_of_beq_eq_true hb) hst
  simp [look,this]
@[go_sem] theorem look_nil {t:Nat}:look t []=none:=rfl
def fstO (x:Option (AVal × Bool)):Option AVal:=match x with
 | some x=>some x.1
 | none=>none
@[go_sem] theorem fstO_some {v:AVal} {o:Bool}:fstO (some (v,o))=some v:=rfl
@[go_sem] theorem evalO_tmp {t:Nat}:evalO e (.tmp t)=fstO (look t e):=rfl
@[go_sem] theorem evalO_const {v:AVal}:evalO e (.const v)=some v:=rfl
def consO (x:Option AVal) (l:Option (List AVal)):Option (List AVal):=match x,l with
 | some v,some vs=>some (v::vs)
 | _,_=>none
@[go_sem] theorem consO_some {v:AVal} {vs:List AVal}:consO (some v) (some vs)=some (v::vs):=rfl
@[go_sem] theorem evalL_nil:evalL e []=some []:=rfl
@[go_sem] theorem evalL_cons {x:AOpd} {l:List AOpd}:evalL e (x::l)=consO (evalO e x) (evalL e l):=by
 simp only [evalL,consO]
 cases evalO e x with
 | none=>rfl
 | some v=>cases evalL e l <;> rfl
@[go_sem] theorem keepSt_some {l:List Nat}:keepSt ⟨e,h⟩ (some l)=⟨keepEnv e l,h⟩:=rfl
@[go_sem] theorem keepSt_none:keepSt ⟨e,h⟩ none=⟨e,h⟩:=rfl
def keepC (t:Nat) (x:Option (AVal × Bool)) (e:Env):Env:=match x with
 | some x=>(t,x)::e
 | none=>e
@[go_sem] theorem keepC_some {t:Nat} {x:AVal × Bool}:keepC t (some x) e=(t,x)::e:=rfl
@[go_sem] theorem keepC_none {t:Nat}:keepC t none e=e:=rfl
@[go_sem] theorem keepEnv_nil:keepEnv e []=[]:=rfl
@[go_sem] theorem keepEnv_cons {t:Nat} {l:List Nat}:keepEnv e (t::l)=keepC t (look t e) (keepEnv e l):=by
 simp only [keepEnv,keepC]
 cases look t e <;> rfl
@[go_sem] theorem putEnv_some {d:Nat} {v:AVal} {o:Bool}:putEnv e (some d) v o=(d,v,o)::e:=rfl
@[go_sem] theorem putEnv_none {v:AVal} {o:Bool}:putEnv e none v o=e:=rfl
@[go_sem] theorem stripEnv_none:stripEnv e none=e:=rfl
def stripC (s:Nat) (x:Option (AVal × Bool)) (e:Env):Env:=match x with
 | some (v,_)=>(s,v,false)::e
 | none=>e
@[go_sem] theorem stripC_some {s:Nat} {v:AVal} {o:Bool}:stripC s (some (v,o)) e=(s,v,false)::e:=rfl
@[go_sem] theorem stripEnv_some {s:Nat}:stripEnv e (some s)=stripC s (look s e) e:=by
 simp only [stripEnv,stripC]
 cases look s e <;> rfl
@[go_sem] theorem argEnv_nil {i:Nat}:argEnv i []=[]:=rfl
@[go_sem] theorem argEnv_cons {i:Nat} {v:AVal} {vs:List AVal}:argEnv i (v::vs)=(i,v,false)::argEnv (i + 1) vs:=rfl
@[go_sem] theorem valO_some {v:AVal}:valO h (some v)=some ⟨v,false,none,h⟩:=rfl
@[go_sem] theorem val_eq {v:AVal}:val h v=some ⟨v,false,none,h⟩:=rfl
@[go_sem] theorem s_move {x:AOpd}:stepOp p xc h0 al e h (.move x)=valO h (evalO e x):=rfl
def takeR (s:Nat) (h:Heap) (x:Option (AVal × Bool)):Option ORes:=match x with
 | some (v,o)=>some ⟨v,o,some s,h⟩
 | none=>none
@[go_sem] theorem takeR_some {s:Nat} {v:AVal} {o:Bool}:takeR s h (some (v,o))=some ⟨v,o,some s,h⟩:=rfl
@[go_sem] theorem s_take {s:Nat}:stepOp p xc h0 al e h (.take s)=takeR s h (look s e):=by
 simp only [stepOp,stepPure,takeR]
 cases look s e <;> rfl
def bin2 (op:BinOp) (h:Heap) (a b:Option AVal):Option ORes:=match a,b with
 | some a,some b=>valO h (binOpA op a b)
 | _,_=>none
@[go_sem] theorem bin2_some {op:BinOp} {a b:AVal}:bin2 op h (some a) (some b)=valO h (binOpA op a b):=rfl
@[go_sem] theorem s_bin {op:BinOp} {x y:AOpd}:stepOp p xc h0 al e h (.bin op x y)=bin2 op h (evalO e x) (evalO e y):=by
 simp only [stepOp,stepPure,bin2]
 cases evalO e x <;> cases evalO e y <;> rfl
def pickR (h:Heap) (c a b:Option AVal):Option ORes:=match c,a,b with
 | some (.bool t),some x,some y=>val h (bif t then x else y)
 | _,_,_=>none
@[go_sem] theorem pickR_some {t:Bool} {a b:AVal}:pickR h (some (.bool t)) (some a) (some b)=some ⟨bif t then a else b,false,none,h⟩:=rfl
@[go_sem] theorem s_pick {c a b:AOpd}:stepOp p xc h0 al e h (.pick c a b)=pickR h (evalO e c) (evalO e a) (evalO e b):=by
 simp only [stepOp,stepPure,pickR]
 cases evalO e c with
 | none=>rfl
 | some v=>cases v <;> cases evalO e a <;> cases evalO e b <;> rfl
def lenR (k:Nat) (h:Heap) (x:Option AVal):Option ORes:=match k,x with
 | 1,some (.list _ _ xs)=>val h (.int .i64 xs.length)
 | 1,some (.ms _ _ n)=>val h (.int .i64 n)
 | 2,some (.list true _ _)=>val h (.int .i64 0)
 | 0,some (.str s)=>val h (.int .i64 s.length)
 | _,_=>none
@[go_sem] theorem lenR_list {b:Bool} {z:Nat} {xs:List AVal}:lenR 1 h (some (.list b z xs))=some ⟨.int .i64 xs.length,false,none,h⟩:=rfl
@[go_sem] theorem lenR_ms {b o n:Nat}:lenR 1 h (some (.ms b o n))=some ⟨.int .i64 n,false,none,h⟩:=rfl
@[go_sem] theorem lenR_str {s:List UInt8}:lenR 0 h (some (.str s))=some ⟨.int .i64 s.length,false,none,h⟩:=rfl
@[go_sem] theorem lenR_cap {z:Nat} {xs:List AVal}:lenR 2 h (some (.list true z xs))=some ⟨.int .i64 0,false,none,h⟩:=rfl
@[go_sem] theorem s_len {k:Nat} {x:AOpd}:stepOp p xc h0 al e h (.len k x)=lenR k h (evalO e x):=rfl
def idxI (n:Nat) (i:Int):Option Nat:=if 0≤i∧i < n then some i.toNat else none
theorem idx_int {n:Nat} {k:IntKind} {i:Int}:idx n (.int k i)=idxI n i:=by
 unfold idx idxI
 cases i with
 | ofNat m=>
  by_cases hm:m < n
  ·rw [if_pos ⟨by simp,by simp; omega⟩]; simp [Nat.blt_eq.mpr hm]
  ·rw [if_neg (by simp; omega)]
   cases hb:Nat.blt m n with
   | true=>exact absurd (Nat.blt_eq.mp hb) hm
   | false=>simp [hb]
 | negSucc m=>simp
attribute [go_sem] idx_int
theorem idxI_in {n:Nat} {i:Int} (h1:0≤i) (h2:i < n):idxI n i=some i.toNat:=by unfold idxI; rw [if_pos ⟨h1,h2⟩]
theorem idxI_nat {n i:Nat} (h:i < n):idxI n (i:Int)=some i:=by unfold idxI; rw [if_pos ⟨by simp,by omega⟩]; simp
def idxR (sz:Nat) (h:Heap) (x i:Option AVal):Option ORes:=match x,i with
 | some (.list _ sz' xs),some j=>bif Nat.beq sz sz' || xs.isEmpty then (match idx xs.length j with
   | some j=>(match xs[j]? with
    | some v=>val h (.vptr v)
    | none=>none)
   | none=>none) else none
 | some (.ms b o len),some j=>(match idx len j with
   | some j=>val h (.ptr b (o + j * sz))
   | none=>none)
 | _,_=>none
@[go_sem] theorem s_indexAddr {sz:Nat} {x i:AOpd}:stepOp p xc h0 al e h (.indexAddr sz x i)=idxR sz h (evalO e x) (evalO e i):=by
 simp only [stepOp,stepPure,idxR]
 cases evalO e x with
 | none=>rfl
 | some v=>cases v <;> cases evalO e i <;> rfl
theorem idxR_list {sz:Nat} {b:Bool} {k:IntKind} {xs:List AVal} {i:Int} {v:AVal} (h1:0≤i) (hv:xs[i.toNat]?=some v):idxR sz h (some (.list b sz xs)) (some (.int k i))=some ⟨.vptr v,false,none,h⟩:=by
 have hl:=(List.getElem?_eq_some_iff.1 hv).1
 have hi:idx xs.length (.int k i)=some i.toNat:=by rw [idx_int]; exact idxI_in h1 (by omega)
 simp only [idxR,hi,Nat.beq_refl,Bool.true_or,cond_true,hv]
 rfl
theorem idxR_nat {sz:Nat} {b:Bool} {k:IntKind} {xs:List AVal} {i:Nat} {v:AVal} (hv:xs[i]?=some v):idxR sz h (some (.list b sz xs)) (some (.int k (i:Int)))=some ⟨.vptr v,false,none,h⟩:=
 idxR_list (by simp) (by simpa using hv)
def loadR (h0:Nat) (al:Option (List Nat)) (agg:Bool) (n:Nat) (h:Heap) (x:Option AVal):Option ORes:=match x with
 | some (.ptr b o)=>bif okBox h0 al b then (match boxCells h b with
   | some cs=>(match loadCellsA cs o n with
    | some vs=>bif agg then val h (.agg vs) else (match vs with
     | [v]=>val h v
     | _=>none)
    | none=>none)
   | none=>none) else none
 | some (.vptr v)=>bif Bool.xor agg v.isAgg || !(Nat.beq v.flat.length n) then none else val h v
 | _=>none
@[go_sem] theorem s_load {agg:Bool} {n:Nat} {x:AOpd}:stepOp p xc h0 al e h (.load agg n x)=loadR h0 al agg n h (evalO e x):=by
 simp only [stepOp,stepRead,loadR]
 cases evalO e x with
 | none=>rfl
 | some v=>cases v <;> rfl
def noPtr:Option AVal→Option AVal
 | some (.vptr v)=>some (.vptr v)
 | _=>none
@[go_sem] theorem noPtr_v {v:AVal}:noPtr (some (.vptr v))=some (.vptr v):=rfl
@[go_sem] theorem s_vload {agg:Bool} {n:Nat} {x:AOpd}:stepOp p xc h0 al e h (.vload agg n x)=loadR h0 al agg n h (noPtr (evalO e x)):=by
 simp only [stepOp,stepPure,loadR]
 cases evalO e x with
 | none=>rfl
 | some v=>cases v <;> rfl
@[go_sem] theorem loadR_int {k:IntKind} {i:Int}:loadR h0 al false 1 h (some (.vptr (.int k i)))=some ⟨.int k i,false,none,h⟩:=rfl
@[go_sem] theorem loadR_str {s:List UInt8}:loadR h0 al false 1 h (some (.vptr (.str s)))=some ⟨.str s,false,none,h⟩:=rfl
@[go_sem] theorem loadR_bool {b:Bool}:loadR h0 al false 1 h (some (.vptr (.bool b)))=some ⟨.bool b,false,none,h⟩:=rfl
@[go_sem] theorem loadR_list {b:Bool} {z:Nat} {xs:List AVal}:loadR h0 al false 1 h (some (.vptr (.list b z xs)))=some ⟨.list b z xs,false,none,h⟩:=rfl
theorem loadR_agg {n:Nat} {cs:List AVal} (hn:cs.length=n):loadR h0 al true n h (some (.vptr (.agg cs)))=some ⟨.agg cs,false,none,h⟩:=by
 subst hn; simp [loadR,AVal.isAgg,AVal.flat,val]
@[go_sem] theorem b_add {k:IntKind} {x y:Int}:binOpA .add (.int k x) (.int k y)=some (.int k (wrapF k (x + y))):=by simp [binOpA,binInt]
@[go_sem] theorem b_sub {k:IntKind} {x y:Int}:binOpA .sub (.int k x) (.int k y)=some (.int k (wrapF k (x - y))):=by simp [binOpA,binInt]
@[go_sem] theorem b_mul {k:IntKind} {x y:Int}:binOpA .mul (.int k x) (.int k y)=some (.int k (wrapF k (x * y))):=by simp [binOpA,binInt]
@[go_sem] theorem b_lss {k:IntKind} {x y:Int}:binOpA .lss (.int k x) (.int k y)=some (.bool (decide (x < y))):=by simp [binOpA,binInt]
@[go_sem] theorem b_leq {k:IntKind} {x y:Int}:binOpA .leq (.int k x) (.int k y)=some (.bool (decide (x≤y))):=by simp [binOpA,binInt]
@[go_sem] theorem b_gtr {k:IntKind} {x y:Int}:binOpA .gtr (.int k x) (.int k y)=some (.bool (decide (y < x))):=by simp [binOpA,binInt]
@[go_sem] theorem b_geq {k:IntKind} {x y:Int}:binOpA .geq (.int k x) (.int k y)=some (.bool (decide (y≤x))):=by simp [binOpA,binInt]
@[go_sem] theorem b_eql {k:IntKind} {x y:Int}:binOpA .eql (.int k x) (.int k y)=some (.bool (decide (x=y))):=by
 simp only [binOpA,binInt,decide_true,cond_true]; congr 2
@[go_sem] theorem b_neq {k:IntKind} {x y:Int}:binOpA .neq (.int k x) (.int k y)=some (.bool (!decide (x=y))):=by
 simp only [binOpA,binInt,decide_true,cond_true]; congr 2
theorem wrapF_i64 {x:Int} (h1:-9223372036854775808≤x) (h2:x≤9223372036854775807):wrapF .i64 x=x:=by
 have:inKind .i64 x=true:=by
  cases x with
  | ofNat m=>simp only [inKind]; exact Nat.ble_eq_true_of_le (by simp at h2; omega)
  | negSucc m=>simp only [inKind]; exact Nat.ble_eq_true_of_le (by omega)
 simp [wrapF,this]
def isoR (h:Heap) (b:Bool) (r:Option (AVal × Bool)):Option ORes:=match b,r with
 | true,some (v,o)=>some ⟨v,o,none,h⟩
 | _,_=>none
@[go_sem] theorem isoR_some {v:AVal} {o:Bool}:isoR h true (some (v,o))=some ⟨v,o,none,h⟩:=rfl
def shrR (n:Nat) (r:Option (AVal × Bool × Heap)):Option ORes:=match r with
 | some (v,o,h')=>some ⟨v,o,none,afterShared n v h'⟩
 | none=>none
@[go_sem] theorem shrR_some {n:Nat} {v:AVal} {o:Bool}:shrR n (some (v,o,h))=some ⟨v,o,none,afterShared n v h⟩:=rfl
def yieldR (r:Option (AVal × Heap)):Option ORes:=match r with
 | some (v,h')=>some ⟨v,false,none,h'⟩
 | none=>none
@[go_sem] theorem yieldR_some {v:AVal}:yieldR (some (v,h))=some ⟨v,false,none,h⟩:=rfl
def mapR (h0 r:Nat) (h:Heap) (b:Bool) (m:Option (List (AVal × AVal))):Option ORes:=match b,m with
 | true,some es=>(match newBox h0 h r (.map es) with
  | some h'=>some ⟨.map (h0 + r),false,none,h'⟩
  | none=>none)
 | _,_=>none
def callR (p:AProg) (xc:XC) (h0:Nat) (h:Heap) (md:CMode) (f:Option AVal) (l:Option (List AVal)):Option ORes:=match f,l with
 | some (.fn (.func k) a c),some vs=>(match md with
  | .iso=>isoR h (belowL 0 (a++vs++c)) (callIso p xc k (a++vs++c))
  | .frz r=>mapR h0 r h (a++vs++c).isEmpty (p.maps k)
  | .shr=>shrR h.length (callFn p xc k (a++vs++c) h))
 | some (.fn (.yield b) [] []),some vs=>(match md with
  | .shr=>yieldR (yieldOp xc b vs h)
  | _=>none)
 | _,_=>none
@[go_sem] theorem s_call {md:CMode} {f:AOpd} {l:List AOpd}:stepOp p xc h0 al e h (.call md f l)=callR p xc h0 h md (evalO e f) (evalL e l):=by
 simp only [stepOp,stepCall,callR]
 split
 ·rename_i k first captured vs h1 h2
  rw [h1,h2]
  cases md with
  | iso=>
   simp only []
   cases belowL 0 (first++vs++captured) with
   | false=>cases callIso p xc k (first++vs++captured) <;> rfl
   | true=>cases callIso p xc k (first++vs++captured) <;> rfl
  | frz rk=>
   simp only []
   cases (first++vs++captured).isEmpty with
   | false=>cases p.maps k <;> rfl
   | true=>
    cases p.maps k with
    | none=>rfl
    | some es=>simp only [cond_true,mapR]; cases newBox h0 h rk (.map es) <;> rfl
  | shr=>simp only []; cases callFn p xc k (first++vs++captured) h <;> rfl
 ·rename_i b vs h1 h2
  rw [h1,h2]
  cases md with
  | shr=>simp only []; cases yieldOp xc b vs h <;> rfl
  | _=>rfl
 ·rename_i h1 h2
  split
  ·rename_i k a c vs g1 g2; exact absurd g2 (fun g2=>h1 k a c vs g1 g2)
  ·rename_i b vs g1 g2; exact absurd g2 (fun g2=>h2 b vs g1 g2)
  ·rfl
@[go_sem] theorem callR_iso {k:Nat} {a c vs:List AVal}:callR p xc h0 h .iso (some (.fn (.func k) a c)) (some vs)=isoR h (belowL 0 (a++vs++c)) (callIso p xc k (a++vs++c)):=rfl
@[go_sem] theorem callR_frz {k r:Nat} {a c vs:List AVal}:callR p xc h0 h (.frz r) (some (.fn (.func k) a c)) (some vs)=mapR h0 r h (a++vs++c).isEmpty (p.maps k):=rfl
@[go_sem] theorem callR_shr {k:Nat} {a c vs:List AVal}:callR p xc h0 h .shr (some (.fn (.func k) a c)) (some vs)=shrR h.length (callFn p xc k (a++vs++c) h):=rfl
@[go_sem] theorem callR_yield {b:Nat} {vs:List AVal}:callR p xc h0 h .shr (some (.fn (.yield b) [] [])) (some vs)=yieldR (yieldOp xc b vs h):=rfl
def endX (rs:List ARes) (r:Option (AExit × ASt)):Option (AVal × Bool × Heap):=match r with
 | some (.normal,st)=>(match resultsOf st rs with
   | some xs=>some ((packResults xs).1,(packResults xs).2,clearRes st rs)
   | none=>none)
 | some (.ret,st)=>(match resultsOf st rs with
   | some xs=>some ((packResults xs).1,(packResults xs).2,clearRes st rs)
   | none=>none)
 | _=>none
def outX (st:ASt) (rs:List ARes) (r:Option (List (AVal × Bool))):Option (AVal × Bool × Heap):=match r with
 | some xs=>some ((packResults xs).1,(packResults xs).2,clearRes st rs)
 | none=>none
@[go_sem] theorem endX_normal {rs:List ARes} {st:ASt}:endX rs (some (.normal,st))=outX st rs (resultsOf st rs):=rfl
@[go_sem] theorem endX_ret {rs:List ARes} {st:ASt}:endX rs (some (.ret,st))=outX st rs (resultsOf st rs):=rfl
@[go_sem] theorem outX_some {st:ASt} {rs:List ARes} {xs:List (AVal × Bool)}:outX st rs (some xs)=some ((packResults xs).1,(packResults xs).2,clearRes st rs):=rfl
theorem callFn_at {k nt:Nat} {body:ACode} {rs:List ARes} {args:List AVal} (hf:p.fns k=some ⟨nt,body,rs⟩) (hl:args.length≤nt):callFn p xc k args h=endX rs (xc body ⟨argEnv 0 args,h⟩):=by
 simp only [callFn,hf,callBody,Nat.ble_eq_true_of_le hl,cond_true,endX]
 rfl
def consR (x:Option (AVal × Bool)) (l:Option (List (AVal × Bool))):Option (List (AVal × Bool)):=match x,l with
 | some v,some vs=>some (v::vs)
 | _,_=>none
@[go_sem] theorem consR_some {v:AVal × Bool} {vs:List (AVal × Bool)}:consR (some v) (some vs)=some (v::vs):=rfl
@[go_sem] theorem resultsOf_nil {st:ASt}:resultsOf st []=some []:=rfl
@[go_sem] theorem resultsOf_cons {st:ASt} {r:ARes} {rs:List ARes}:resultsOf st (r::rs)=consR (resultOf st r) (resultsOf st rs):=by
 simp only [resultsOf,consR]
 cases resultOf st r with
 | none=>rfl
 | some v=>cases resultsOf st rs <;> rfl
@[go_sem] theorem resultOf_tmp {t:Nat}:resultOf ⟨e,h⟩ (.tmp t)=look t e:=rfl
@[go_sem] theorem pack_one {x:AVal × Bool}:packResults [x]=x:=rfl
@[go_sem] theorem pack_two {x y:AVal × Bool}:packResults [x,y]=(.tup [x.1,y.1],false):=rfl
@[go_sem] theorem pack_three {x y z:AVal × Bool}:packResults [x,y,z]=(.tup [x.1,y.1,z.1],false):=rfl
@[go_sem] theorem pack_none:packResults []=(.tup [],false):=rfl
@[go_sem] theorem clear_tmp {st:ASt} {t:Nat}:clearRes st [.tmp t]=st.heap:=rfl
@[go_sem] theorem clear_two {st:ASt} {x y:ARes} {l:List ARes}:clearRes st (x::y::l)=st.heap:=by
 cases x with
 | tmp t=>rfl
 | cell t a n=>cases a <;> rfl
@[go_sem] theorem clear_none {st:ASt}:clearRes st []=st.heap:=rfl
@[go_sem] theorem clear_agg {st:ASt} {t n:Nat}:clearRes st [.cell t true n]=st.heap:=rfl
@[go_sem] theorem guard_tt {o:Bool}:guardV true (some (.bool true,o))=some true:=rfl
@[go_sem] theorem guard_tf {o:Bool}:guardV true (some (.bool false,o))=some false:=rfl
@[go_sem] theorem guard_ft {o:Bool}:guardV false (some (.bool true,o))=some false:=rfl
@[go_sem] theorem guard_ff {o:Bool}:guardV false (some (.bool false,o))=some true:=rfl
attribute [go_sem] cond_true cond_false decide_true decide_false Bool.not_true Bool.not_false List.append_nil List.nil_append List.length_cons List.length_nil
@[go_sem] theorem repl0:List.replicate 0 ABox.hole=[]:=rfl
end
section
variable {p:AProg} {xc:XC} {h0:Nat} {al:Option (List Nat)} {e:Env} {h:Heap} {α:Type}
def sl (z:Nat) (f:α→AVal):Option (List α)→AVal
 | none=>.list true 0 []
 | some l=>.list false z (l.map f)
@[go_sem] theorem len_sl {z:Nat} {f:α→AVal} {l:Option (List α)}:lenR 1 h (some (sl z f l))=some ⟨.int .i64 (l.getD []).length,false,none,h⟩:=by
 cases l <;> simp [sl,lenR,val]
theorem idx_sl {z:Nat} {f:α→AVal} {l:Option (List α)} {k:IntKind} {i:Nat} {x:α} (hx:(l.getD [])[i]?=some x):idxR z h (some (sl z f l)) (some (.int k (i:Int)))=some ⟨.vptr (f x),false,none,h⟩:=by
 cases l with
 | none=>simp at hx
 | some l=>exact idxR_nat (by rw [List.getElem?_map,show l[i]?=some x from hx]; rfl)
theorem below_sl {n z:Nat} {f:α→AVal} {l:Option (List α)} (hf:∀ x,below n (f x)=true):below n (sl z f l)=true:=by
 have key:∀ l:List α,belowL n (l.map f)=true:=by
  intro l
  induction l with
  | nil=>rfl
  | cons x l ih=>simp [belowL,hf,ih]
 cases l with
 | none=>rfl
 | some l=>simp only [sl,below]; exact key l
theorem sl_inj {z:Nat} {f:α→AVal} (hf:∀ x y,f x=f y→x=y) {a b:Option (List α)} (hab:sl z f a=sl z f b):a=b:=by
 have key:∀ a b:List α,a.map f=b.map f→a=b:=by
  intro a
  induction a with
  | nil=>intro b hb; cases b <;> simp at hb <;> rfl
  | cons x a ih=>
   intro b hb
   cases b with
   | nil=>simp at hb
   | cons y b=>simp at hb; rw [hf _ _ hb.1,ih _ hb.2]
 cases a <;> cases b <;> simp [sl] at hab <;> first | rfl | rw [key _ _ hab]
def vint (n:Int):AVal:=.int .i64 n
@[go_sem] theorem loadR_vint {i:Int}:loadR h0 al false 1 h (some (.vptr (vint i)))=some ⟨.int .i64 i,false,none,h⟩:=rfl
end
end Go.Abs
