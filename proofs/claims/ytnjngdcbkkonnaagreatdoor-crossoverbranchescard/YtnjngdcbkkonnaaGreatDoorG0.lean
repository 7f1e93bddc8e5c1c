/-
  Functions in Option that mirror the machine's runs: the pieces.
-/
import Derived.Test.YtnjngdcbkkonnaaGreatDoorL1
set_option linter.unusedVariables false
set_option linter.unusedSimpArgs false
set_option maxRecDepth 100000
namespace Go.Z
open Go Go.Abs
def obind {α β:Type} (x:Option α) (f:α→Option β):Option β:=match x with
 | some a=>f a
 | none=>none
@[simp] theorem obind_at {α β:Type} {a:α} {f:α→Option β}:obind (some a) f=f a:=rfl
@[simp] theorem obind_no {α β:Type} {f:α→Option β}:obind none f=none:=rfl
theorem obind_some {α β:Type} {x:Option α} {f:α→Option β} {r:β} (h:obind x f=some r):∃ a,x=some a∧f a=some r:=by
 cases x with
 | none=>cases h
 | some a=>exact ⟨a,rfl,h⟩
theorem cond_split {α:Type} {c:Bool} {a b r:α} (h:cond c a b=r):(c=true∧a=r)∨(c=false∧b=r):=by
 cases c
 ·exact .inr ⟨rfl,h⟩
 ·exact .inl ⟨rfl,h⟩
def itF {σ δ:Type} (f:σ→Option (σ ⊕ δ)):Nat→σ→Option δ
 | 0,_=>none
 | n + 1,s=>match f s with
  | none=>none
  | some (.inl s')=>itF f n s'
  | some (.inr d)=>some d
theorem itF_succ {σ δ:Type} {f:σ→Option (σ ⊕ δ)} {d:δ}:∀ {n:Nat} {s:σ},itF f n s=some d→itF f (n + 1) s=some d
 | 0,_,h=>by cases h
 | n + 1,s,h=>by
  rw [itF] at h ⊢
  cases hf:f s with
  | none=>rw [hf] at h; cases h
  | some x=>
   rw [hf] at h
   cases x with
   | inl s'=>exact itF_succ h
   | inr d'=>exact h
theorem itF_le {σ δ:Type} {f:σ→Option (σ ⊕ δ)} {d:δ} {n m:Nat} {s:σ} (hm:n≤m) (h:itF f n s=some d):itF f m s=some d:=by
 induction hm with
 | refl=>exact h
 | step _ ih=>exact itF_succ ih
open Classical in
noncomputable def itO {σ δ:Type} (f:σ→Option (σ ⊕ δ)) (s:σ):Option δ:=
 if h:∃ d n,itF f n s=some d then some (Classical.choose h) else none
theorem itO_iff {σ δ:Type} {f:σ→Option (σ ⊕ δ)} {s:σ} {d:δ}:itO f s=some d↔∃ n,itF f n s=some d:=by
 unfold itO
 constructor
 ·intro h
  split at h
  ·rename_i hh; cases h; exact Classical.choose_spec hh
  ·cases h
 ·rintro ⟨n,hn⟩
  have hh:∃ d n,itF f n s=some d:=⟨d,n,hn⟩
  rw [dif_pos hh]
  obtain ⟨m,hm⟩:=Classical.choose_spec hh
  have h1:=itF_le (Nat.le_max_left n m) hn
  have h2:=itF_le (Nat.le_max_right n m) hm
  rw [h1] at h2
  exact h2.symm
theorem itO_in {σ δ:Type} {f:σ→Option (σ ⊕ δ)} {s s':σ} (h:f s=some (.inl s')):itO f s=itO f s':=by
 apply Option.ext
 intro d
 rw [itO_iff,itO_iff]
 constructor
 ·rintro ⟨n,hn⟩
  cases n with
  | zero=>cases hn
  | succ n=>rw [itF,h] at hn; exact ⟨n,hn⟩
 ·rintro ⟨n,hn⟩
  exact ⟨n + 1,by rw [itF,h]; exact hn⟩
theorem itO_out {σ δ:Type} {f:σ→Option (σ ⊕ δ)} {s:σ} {d:δ} (h:f s=some (.inr d)):itO f s=some d:=
 itO_iff.2 ⟨1,by rw [itF,h]⟩
def stepO {σ δ:Type} (p:AProg) (c:ACode) (St:σ→ASt) (Ex:δ→AExit × ASt) (s:σ) (r:σ ⊕ δ):Prop:=match r with
 | .inl s'=>∃ st',X p c (St s)=some (.normal,st')∧gc (St s).heap.length st'=St s'
 | .inr d=>X p c (St s)=some (Ex d)
theorem stepO_in {σ δ:Type} {p:AProg} {c:ACode} {St:σ→ASt} {Ex:δ→AExit × ASt} {s s':σ} {st':ASt} (hx:X p c (St s)=some (.normal,st')) (hc:gc (St s).heap.length st'=St s'):stepO p c St Ex s (.inl s'):=⟨st',hx,hc⟩
theorem stepO_out {σ δ:Type} {p:AProg} {c:ACode} {St:σ→ASt} {Ex:δ→AExit × ASt} {s:σ} {d:δ} (hx:X p c (St s)=some (Ex d)):stepO p c St Ex s (.inr d):=hx
theorem X_itF {σ δ:Type} {p:AProg} {c:ACode} {St:σ→ASt} {Ex:δ→AExit × ASt} {f:σ→Option (σ ⊕ δ)} (hb:∀ s r,f s=some r→stepO p c St Ex s r) (hX:∀ d,(Ex d).1 ≠ .normal) {d:δ}:
  ∀ {n:Nat} {s:σ},itF f n s=some d→X p (.loop c) (St s)=some (Ex d)
 | 0,_,h=>by cases h
 | n + 1,s,h=>by
  rw [itF] at h
  rw [X_loop']
  cases hf:f s with
  | none=>rw [hf] at h; cases h
  | some x=>
   rw [hf] at h
   have hs:=hb s x hf
   cases x with
   | inl s'=>
    obtain ⟨st',h1,h2⟩:=hs
    rw [h1,loopX_normal,h2]
    exact X_itF hb hX h
   | inr d'=>
    cases h
    rw [show X p c (St s)=some (Ex d) from hs,loopX_out (hX d)]
theorem X_itO {σ δ:Type} {p:AProg} {c:ACode} {St:σ→ASt} {Ex:δ→AExit × ASt} {f:σ→Option (σ ⊕ δ)} (hb:∀ s r,f s=some r→stepO p c St Ex s r) (hX:∀ d,(Ex d).1 ≠ .normal) {s:σ} {d:δ} (h:itO f s=some d):X p (.loop c) (St s)=some (Ex d):=by
 obtain ⟨n,hn⟩:=itO_iff.1 h
 exact X_itF hb hX hn
section
variable {h0:Nat} {al:Option (List Nat)} {h:Heap} {α:Type}
def idxO (l:List α) (i:Int):Option α:=if 0≤i then l[i.toNat]? else none
theorem idxO_nat {l:List α} {i:Nat}:idxO l (i:Int)=l[i]?:=by simp [idxO]
theorem idxR_O {z:Nat} {f:α→AVal} {l:Option (List α)} {k:IntKind} {i:Int} {x:α} (hx:idxO (l.getD []) i=some x):idxR z h (some (sl z f l)) (some (.int k i))=some ⟨.vptr (f x),false,none,h⟩:=by
 unfold idxO at hx
 by_cases hi:0≤i
 ·rw [if_pos hi] at hx
  obtain ⟨n,rfl⟩:∃ n:Nat,i=(n:Int):=⟨i.toNat,by omega⟩
  exact idx_sl (by simpa using hx)
 ·rw [if_neg hi] at hx; cases hx
end
section
variable {h:Heap}
@[go_sem] theorem indexArr_vlit {agg:Bool} {len sz n:Nat} {k:IntKind} {cs:List AVal}:indexArrR agg len sz h (some (.vptr (.agg cs))) (some (.int k (no_index (OfNat.ofNat n:Int))))=ifR (decide ((OfNat.ofNat n:Nat) < len)) (vptrR agg h (Go.Abs.part agg cs ((OfNat.ofNat n:Nat) * sz) sz)):=by
 have e:(OfNat.ofNat n:Int)=(n:Int):=rfl
 have e':(OfNat.ofNat n:Nat)=n:=rfl
 rw [e,e']
 by_cases hn:n < len
 ·simp [indexArrR,idx_int,idxI_nat hn,hn,ifR,vptrR]; rfl
 ·have hi:idxI len (n:Int)=none:=by unfold idxI; rw [if_neg (by omega)]
  simp [indexArrR,idx_int,hi,hn,ifR]
end
def quoO (k:IntKind) (x y:Int):Option Int:=if y=0 then none else some (wrapF k (x.tdiv y))
def remO (x y:Int):Option Int:=if y=0 then none else some (x.tmod y)
theorem b_quo_O {k:IntKind} {x y v:Int} (h:quoO k x y=some v):binOpA .quo (.int k x) (.int k y)=some (.int k v):=by
 unfold quoO at h
 by_cases hy:y=0
 ·rw [if_pos hy] at h; cases h
 ·rw [if_neg hy] at h; cases h
  have:(y == 0)=false:=by simp [hy]
  simp [binOpA,binInt,this]
theorem b_rem_O {k:IntKind} {x y v:Int} (h:remO x y=some v):binOpA .rem (.int k x) (.int k y)=some (.int k v):=by
 unfold remO at h
 by_cases hy:y=0
 ·rw [if_pos hy] at h; cases h
 ·rw [if_neg hy] at h; cases h
  have:(y == 0)=false:=by simp [hy]
  simp [binOpA,binInt,this]
def shO (op:BinOp) (k:IntKind) (x y:Int):Option Int:=match binShift op k x y with
 | some (.int _ v)=>some v
 | _=>none
abbrev shrO:=shO .shr
theorem b_shr_O {k:IntKind} {k':IntKind} {x y v:Int} (h:shrO k x y=some v):binOpA .shr (.int k x) (.int k' y)=some (.int k v):=by
 simp only [shrO,shO,binShift] at h
 simp only [binOpA,binShift]
 cases hy:decide (y < 0) with
 | true=>rw [hy] at h; cases h
 | false=>rw [hy] at h; simp only [cond_false] at h ⊢; cases h; rfl
def bitF (op:BinOp) (k:IntKind) (x y:Int):Int:=match binInt op k x y with
 | some (.int _ v)=>v
 | _=>0
@[go_sem] theorem b_and {k:IntKind} {x y:Int}:binOpA .and (.int k x) (.int k y)=some (.int k (bitF .and k x y)):=by simp [binOpA,binInt,bitF]
def catO (a b:List UInt8):Option (List UInt8):=if a.length + b.length≤4611686018427387904 then some (a++b) else none
theorem b_cat_O {a b v:List UInt8} (h:catO a b=some v):binOpA .add (.str a) (.str b)=some (.str v):=by
 unfold catO at h
 by_cases hl:a.length + b.length≤4611686018427387904
 ·rw [if_pos hl] at h; cases h
  simp only [binOpA,binStr,nat_ble,hl,decide_true,cond_true]
 ·rw [if_neg hl] at h; cases h
section
variable {p:AProg} {xc:XC} {h0:Nat} {al:Option (List Nat)} {e:Env} {h:Heap}
def convR (k:IntKind) (h:Heap) (x:Option AVal):Option ORes:=match x with
 | some (.int _ n)=>val h (.int k (wrapF k n))
 | _=>none
@[go_sem] theorem convR_int {k k':IntKind} {n:Int}:convR k h (some (.int k' n))=some ⟨.int k (wrapF k n),false,none,h⟩:=rfl
@[go_sem] theorem s_conv {k:IntKind} {x:AOpd}:stepOp p xc h0 al e h (.conv k x)=convR k h (evalO e x):=by
 simp only [stepOp,stepPure,convR]
 cases evalO e x with
 | none=>rfl
 | some v=>cases v <;> rfl
def convStrR (h:Heap) (x:Option AVal):Option ORes:=match x with
 | some (.str s)=>val h (.str s)
 | some (.int _ n)=>val h (.str (Utf8.encode n).data.toList)
 | _=>none
@[go_sem] theorem convStrR_int {k:IntKind} {n:Int}:convStrR h (some (.int k n))=some ⟨.str (Utf8.encode n).data.toList,false,none,h⟩:=rfl
@[go_sem] theorem convStrR_str {s:List UInt8}:convStrR h (some (.str s))=some ⟨.str s,false,none,h⟩:=rfl
def nilCheckR (h:Heap) (x:Option AVal):Option ORes:=match x with
 | some (.ptr b o)=>val h (.ptr b o)
 | some (.vptr v)=>val h (.vptr v)
 | some (.fn (.func f) a b)=>val h (.fn (.func f) a b)
 | _=>none
@[go_sem] theorem nilCheck_ptr {b o:Nat}:nilCheckR h (some (.ptr b o))=some ⟨.ptr b o,false,none,h⟩:=rfl
@[go_sem] theorem nilCheck_vptr {v:AVal}:nilCheckR h (some (.vptr v))=some ⟨.vptr v,false,none,h⟩:=rfl
@[go_sem] theorem nilCheck_fn {f:Nat} {a b:List AVal}:nilCheckR h (some (.fn (.func f) a b))=some ⟨.fn (.func f) a b,false,none,h⟩:=rfl
def fieldR (agg:Bool) (off n:Nat) (h:Heap) (x:Option AVal):Option ORes:=match x with
 | some (.agg cs)=>valO h (Go.Abs.part agg cs off n)
 | _=>none
@[go_sem] theorem fieldR_agg {agg:Bool} {off n:Nat} {cs:List AVal}:fieldR agg off n h (some (.agg cs))=valO h (Go.Abs.part agg cs off n):=rfl
end
section
variable {p:AProg} {xc:XC} {h0:Nat} {al:Option (List Nat)} {e:Env} {h:Heap} {α:Type}
attribute [go_sem] Option.map_some Option.map_none
end
section
variable {h:Heap} {α:Type}
def apS (o:Option (List α)) (ys:List α):Option (List α):=match o,ys with
 | none,[]=>none
 | o,ys=>some (o.getD []++ys)
def apO (o:Option (List α)) (ys:List α):Option (Option (List α)):=if (o.getD []).length + ys.length≤1073741824 then some (apS o ys) else none
theorem app_gen {z b:Nat} {own:Option Nat} {f:α→AVal} {o:Option (List α)} {ys:List α} {v:Option (List α)} {y:AVal} (hz:0 < z) (hb:b≤4096) (hy:srcElems z y=some (ys.map f)) (hv:apO o ys=some v)
  (ho:o=none∨own.isSome=true):appR z b h own (some (sl z f o)) (some y)=some ⟨sl z f v,true,own,h⟩:=by
 unfold apO at hv
 by_cases hl:(o.getD []).length + ys.length≤1073741824
 ·rw [if_pos hl] at hv; cases hv
  cases o with
  | none=>
   simp only [sl,appR,appR.appS,hy,ifR,Bool.true_or,List.isEmpty_nil,Bool.and_true,Bool.or_true,List.length_nil,List.length_map,nat_ble,nat_blt,hz,hb,decide_true]
   simp only [Option.getD_none,List.length_nil] at hl
   simp only [hl,decide_true,Bool.and_self,Bool.or_true]
   cases ys with
   | nil=>rfl
   | cons y ys=>simp [apRes,apS,sl]
  | some l=>
   have ho':own.isSome=true:=by rcases ho with h | h; cases h; exact h
   simp only [sl,appR,appR.appS,hy,ifR,ho',Bool.or_true,nat_beq,nat_ble,nat_blt,hz,hb,decide_true,Bool.true_or,List.length_map]
   simp only [Option.getD_some] at hl
   simp only [hl,decide_true,Bool.and_self]
   simp [apRes,apS,sl]
 ·rw [if_neg hl] at hv; cases hv
theorem app_sl_O {z b t:Nat} {f:α→AVal} {o o2 v:Option (List α)} (hv:apO o (o2.getD [])=some v):appR (z + 1) b h (some t) (some (sl (z + 1) f o)) (some (sl (z + 1) f o2))=ifR (decide (b≤4096)) (some ⟨sl (z + 1) f v,true,some t,h⟩):=by
 by_cases hb:b≤4096
 ·rw [app_gen (by omega) hb src_sl hv (.inr rfl)]; simp [ifR,hb]
 ·have hb':decide (b≤4096)=false:=by simp [hb]
  rw [hb']
  cases o with
  | none=>simp [sl,appR,appR.appS,ifR,hb,nat_ble]; split <;> rfl
  | some l=>simp [sl,appR,appR.appS,ifR,hb,nat_ble]; split <;> rfl
theorem app_el {z b t:Nat} {f:α→AVal} {x:α} {y:AVal} {o v:Option (List α)} (hz:0 < z) (hy:srcElems z y=some [f x]) (hv:apO o [x]=some v):appR z b h (some t) (some (sl z f o)) (some y)=ifR (decide (b≤4096)) (some ⟨sl z f v,true,some t,h⟩):=by
 by_cases hb:b≤4096
 ·rw [app_gen hz hb hy hv (.inr rfl)]; simp [ifR,hb]
 ·have hb':decide (b≤4096)=false:=by simp [hb]
  rw [hb']
  cases o with
  | none=>simp [sl,appR,appR.appS,ifR,hb,hy,nat_ble]
  | some l=>simp [sl,appR,appR.appS,ifR,hb,hy,nat_ble]
end
def vstr (s:List UInt8):AVal:=.str s
@[go_sem] theorem loadR_vstr {h0:Nat} {al:Option (List Nat)} {h:Heap} {b:List UInt8}:loadR h0 al false 1 h (some (.vptr (vstr b)))=some ⟨.str b,false,none,h⟩:=rfl
@[go_sem] theorem below_strs {n z:Nat} {l:Option (List (List UInt8))}:below n (sl z vstr l)=true:=below_sl fun _=>rfl
theorem app_vint_O {b t:Nat} {h:Heap} {bb:Bool} {x:Int} {o v:Option (List Int)} (hv:apO o [x]=some v):appR 1 b h (some t) (some (sl 1 vint o)) (some (.list bb 1 [.int .i64 x]))=ifR (decide (b≤4096)) (some ⟨sl 1 vint v,true,some t,h⟩):=app_el (by omega) rfl hv
theorem app_vstr_O {b t:Nat} {h:Heap} {bb:Bool} {x:List UInt8} {o v:Option (List (List UInt8))} (hv:apO o [x]=some v):appR 1 b h (some t) (some (sl 1 vstr o)) (some (.list bb 1 [.str x]))=ifR (decide (b≤4096)) (some ⟨sl 1 vstr v,true,some t,h⟩):=app_el (by omega) rfl hv
theorem callIso_of_dyn {p:AProg} {xc:XC} {k:Nat} {args:List AVal} {v v':AVal} {o:Bool} {h:Heap} (hp:p.prims k=none) (hc:callFn p xc k args []=some (v,o,h)) (hz:freezeR h v=some v') (hv:below 0 v'=true) (hl:v.isList=true):callIso p xc k args=some (v',o):=by
 rw [callIso_of hp hc hz hv,hl,Bool.and_true]
structure GRat where
 num:Int
 den:Int
open Classical in
noncomputable def exO {α:Type} (P:Prop) (v:α):Option α:=if P then some v else none
theorem exO_some {α:Type} {P:Prop} {v r:α} (h:exO P v=some r):P∧v=r:=by
 unfold exO at h
 split at h
 ·rename_i hp; cases h; exact ⟨hp,rfl⟩
 ·cases h
theorem exO_of {α:Type} {P:Prop} {v:α} (h:P):exO P v=some v:=by unfold exO; rw [if_pos h]
end Go.Z
/-
 Slices that are written,arrays of numbers,own slices that grow: the pieces for the printed walks.
-/
namespace Go.Z
open Go Go.Abs
section
variable {p:AProg} {xc:XC} {h0:Nat} {al:Option (List Nat)} {e:Env} {h:Heap} {α:Type}
def boxOwn (own:Option Nat) (v:AVal) (r:Option Heap):Option ORes:=match r with
 | some h'=>some ⟨v,false,own,h'⟩
 | none=>none
@[go_sem] theorem boxOwn_some {own:Option Nat} {v:AVal}:boxOwn own v (some h)=some ⟨v,false,own,h⟩:=rfl
theorem app_none {z b:Nat} {f:α→AVal} {x:α} {y:AVal} {o v:Option (List α)} (hz:0 < z) (hy:srcElems z y=some [f x]) (hn:o.isNone=true) (hv:apO o [x]=some v):appR z b h none (some (sl z f o)) (some y)=ifR (decide (b≤4096)) (some ⟨sl z f v,true,none,h⟩):=by
 cases o with
 | some l=>cases hn
 | none=>
  by_cases hb:b≤4096
  ·rw [app_gen hz hb hy hv (.inl rfl)]; simp [ifR,hb]
  ·have hb':decide (b≤4096)=false:=by simp [hb]
   rw [hb']
   simp [sl,appR,appR.appS,ifR,hb,hy,nat_ble]
theorem app_vint_N {b:Nat} {bb:Bool} {x:Int} {o v:Option (List Int)} (hv:apO o [x]=some v) (hn:o.isNone=true):appR 1 b h none (some (sl 1 vint o)) (some (.list bb 1 [.int .i64 x]))=ifR (decide (b≤4096)) (some ⟨sl 1 vint v,true,none,h⟩):=app_none (by omega) rfl hn hv
attribute [go_sem] Nat.le_refl
end
end Go.Z
/-
 Comparisons of structs.
-/
namespace Go.Z
open Go Go.Abs
@[go_sem] theorem eqs2q {h:Heap} {a b c d:Int}:eqsR [.int,.int] true h (some (.agg [.int .i64 a,.int .i64 b])) (some (.agg [.int .i64 c,.int .i64 d]))=some ⟨.bool (!(decide (a=c) && decide (b=d))),false,none,h⟩:=by
 show (match eqCells [.int,.int] [.int .i64 a,.int .i64 b] [.int .i64 c,.int .i64 d] with | some t=>val h (.bool (bif true then !t else t)) | none=>none)=_
 have:eqCells [.int,.int] [.int .i64 a,.int .i64 b] [.int .i64 c,.int .i64 d]=some (decide (a=c) && decide (b=d)):=by
  have e:∀ x y:Int,(x == y)=decide (x=y):=fun x y=>by by_cases h:x=y <;> simp [h]
  simp only [eqCells,eqCell,e,decide_true,cond_true]
  by_cases h1:a=c <;> by_cases h2:b=d <;> simp [h1,h2]
 rw [this]
 rfl
@[go_sem] theorem eqs4n {h:Heap} {a0 a1 a2 a3 b1000 b1001 b1002 b1003:Int}:eqsR [.int,.int,.int,.int] true h (some (.agg [.int .i64 a0,.int .i64 a1,.int .i64 a2,.int .i64 a3])) (some (.agg [.int .i64 b1000,.int .i64 b1001,.int .i64 b1002,.int .i64 b1003]))=some ⟨.bool (!(decide (a0=b1000) && decide (a1=b1001) && decide (a2=b1002) && decide (a3=b1003))),false,none,h⟩:=by
 show (match eqCells [.int,.int,.int,.int] [.int .i64 a0,.int .i64 a1,.int .i64 a2,.int .i64 a3] [.int .i64 b1000,.int .i64 b1001,.int .i64 b1002,.int .i64 b1003] with | some t=>val h (.bool (bif true then !t else t)) | none=>none)=_
 have:eqCells [.int,.int,.int,.int] [.int .i64 a0,.int .i64 a1,.int .i64 a2,.int .i64 a3] [.int .i64 b1000,.int .i64 b1001,.int .i64 b1002,.int .i64 b1003]=some (decide (a0=b1000) && decide (a1=b1001) && decide (a2=b1002) && decide (a3=b1003)):=by
  have e:∀ x y:Int,(x == y)=decide (x=y):=fun x y=>by by_cases h:x=y <;> simp [h]
  simp only [eqCells,eqCell,e,decide_true,cond_true]
  by_cases h0:a0=b1000 <;> by_cases h1:a1=b1001 <;> by_cases h2:a2=b1002 <;> by_cases h3:a3=b1003 <;> simp [h0,h1,h2,h3]
 rw [this]
 rfl
end Go.Z
/-
 Lists of texts: appends to a list that is nil.
-/
namespace Go.Z
open Go Go.Abs
variable {h:Heap}
theorem app_vstr_N {b:Nat} {bb:Bool} {x:List UInt8} {o v:Option (List (List UInt8))} (hv:apO o [x]=some v) (hn:o.isNone=true):appR 1 b h none (some (sl 1 vstr o)) (some (.list bb 1 [.str x]))=ifR (decide (b≤4096)) (some ⟨sl 1 vstr v,true,none,h⟩):=app_none (by omega) rfl hn hv
theorem iter_t {b pos:Nat} {s:List UInt8} (hp:decide (pos < s.length)=true):iterR h b (some (.iter s pos))=newR (setBox h b (.iter s (pos + (decodeA s pos).2))) (.tup [.bool true,.int .i64 pos,.int .i32 (decodeA s pos).1]):=iterR_in (of_decide_eq_true hp)
theorem iter_f {b pos:Nat} {s:List UInt8} (hp:decide (pos < s.length)=false):iterR h b (some (.iter s pos))=some ⟨.tup [.bool false],false,none,h⟩:=iterR_out (of_decide_eq_false hp)
end Go.Z
