/- Functions in Option that mirror the machine's runs. -/
import Derived.Test.YtnjngdcbkkonnaaGreatDoorL1
set_option linter.unusedVariables false
set_option linter.unusedSimpArgs false
set_option maxRecDepth 100000
namespace Go.Z
open Go Go.Abs
def qe {α β:Type} (x:Option α) (f:α→Option β):Option β:=match x with
 | some a=>f a
 | none=>none
@[simp] theorem qd {α β:Type} {a:α} {f:α→Option β}:qe (some a) f=f a:=rfl
@[simp] theorem jrr {α β:Type} {f:α→Option β}:qe none f=none:=rfl
theorem qa {α β:Type} {x:Option α} {f:α→Option β} {r:β} (h:qe x f=some r):∃ a,x=some a∧f a=some r:=by
 cases x with
 | none=>cases h
 | some a=>exact ⟨a,rfl,h⟩
theorem qb {α:Type} {c:Bool} {a b r:α} (h:cond c a b=r):(c=true∧a=r)∨(c=false∧b=r):=by
 cases c
 ·exact .inr ⟨rfl,h⟩
 ·exact .inl ⟨rfl,h⟩
def itF {σ δ:Type} (f:σ→Option (σ ⊕ δ)):Nat→σ→Option δ
 | 0,_=>none
 | n + 1,s=>match f s with
  | none=>none
  | some (.inl s')=>itF f n s'
  | some (.inr d)=>some d
theorem qwt {σ δ:Type} {f:σ→Option (σ ⊕ δ)} {d:δ}:∀ {n:Nat} {s:σ},itF f n s=some d→itF f (n + 1) s=some d
 | 0,_,h=>by cases h
 | n + 1,s,h=>by
  rw [itF] at h ⊢
  cases hf:f s with
  | none=>rw [hf] at h; cases h
  | some x=>
   rw [hf] at h
   cases x with
   | inl s'=>exact qwt h
   | inr d'=>exact h
theorem q54 {σ δ:Type} {f:σ→Option (σ ⊕ δ)} {d:δ} {n m:Nat} {s:σ} (hm:n≤m) (h:itF f n s=some d):itF f m s=some d:=by
 induction hm with
 | refl=>exact h
 | step _ ih=>exact qwt ih
open Classical in
noncomputable def itO {σ δ:Type} (f:σ→Option (σ ⊕ δ)) (s:σ):Option δ:=
 if h:∃ d n,itF f n s=some d then some (Classical.choose h) else none
theorem qo5 {σ δ:Type} {f:σ→Option (σ ⊕ δ)} {s:σ} {d:δ}:itO f s=some d↔∃ n,itF f n s=some d:=by
 unfold itO
 constructor
 ·intro h
  split at h
  ·rename_i hh; cases h; exact Classical.choose_spec hh
  ·cases h
 ·rintro ⟨n,hn⟩
  have hh:∃ d n,itF f n s=some d:=⟨d,n,hn⟩
  rw [dif_pos hh]
  obtain ⟨m,hm⟩:=Classical.choose_spec hh
  have h1:=q54 (Nat.le_max_left n m) hn
  have h2:=q54 (Nat.le_max_right n m) hm
  rw [h1] at h2
  exact h2.symm
theorem qcp {σ δ:Type} {f:σ→Option (σ ⊕ δ)} {s s':σ} (h:f s=some (.inl s')):itO f s=itO f s':=by
 apply Option.ext
 intro d
 rw [qo5,qo5]
 constructor
 ·rintro ⟨n,hn⟩
  cases n with
  | zero=>cases hn
  | succ n=>rw [itF,h] at hn; exact ⟨n,hn⟩
 ·rintro ⟨n,hn⟩
  exact ⟨n + 1,by rw [itF,h]; exact hn⟩
theorem qal {σ δ:Type} {f:σ→Option (σ ⊕ δ)} {s:σ} {d:δ} (h:f s=some (.inr d)):itO f s=some d:=
 qo5.2 ⟨1,by rw [itF,h]⟩
def zj {σ δ:Type} (p:ju) (c:ACode) (St:σ→ASt) (Ex:δ→ji × ASt) (s:σ) (r:σ ⊕ δ):Prop:=match r with
 | .inl s'=>∃ st',X p c (St s)=some (.normal,st')∧gc (St s).heap.length st'=St s'
 | .inr d=>X p c (St s)=some (Ex d)
theorem qq {σ δ:Type} {p:ju} {c:ACode} {St:σ→ASt} {Ex:δ→ji × ASt} {s s':σ} {st':ASt} (hx:X p c (St s)=some (.normal,st')) (hc:gc (St s).heap.length st'=St s'):zj p c St Ex s (.inl s'):=⟨st',hx,hc⟩
theorem qj {σ δ:Type} {p:ju} {c:ACode} {St:σ→ASt} {Ex:δ→ji × ASt} {s:σ} {d:δ} (hx:X p c (St s)=some (Ex d)):zj p c St Ex s (.inr d):=hx
theorem q9d {σ δ:Type} {p:ju} {c:ACode} {St:σ→ASt} {Ex:δ→ji × ASt} {f:σ→Option (σ ⊕ δ)} (hb:∀ s r,f s=some r→zj p c St Ex s r) (hX:∀ d,(Ex d).1 ≠ .normal) {d:δ}:
  ∀ {n:Nat} {s:σ},itF f n s=some d→X p (.loop c) (St s)=some (Ex d)
 | 0,_,h=>by cases h
 | n + 1,s,h=>by
  rw [itF] at h
  rw [qzy]
  cases hf:f s with
  | none=>rw [hf] at h; cases h
  | some x=>
   rw [hf] at h
   have hs:=hb s x hf
   cases x with
   | inl s'=>
    obtain ⟨st',h1,h2⟩:=hs
    rw [h1,qxs,h2]
    exact q9d hb hX h
   | inr d'=>
    cases h
    rw [show X p c (St s)=some (Ex d) from hs,q34 (hX d)]
theorem z7 {σ δ:Type} {p:ju} {c:ACode} {St:σ→ASt} {Ex:δ→ji × ASt} {f:σ→Option (σ ⊕ δ)} (hb:∀ s r,f s=some r→zj p c St Ex s r) (hX:∀ d,(Ex d).1 ≠ .normal) {s:σ} {d:δ} (h:itO f s=some d):X p (.loop c) (St s)=some (Ex d):=by
 obtain ⟨n,hn⟩:=qo5.1 h
 exact q9d hb hX hn
section
variable {h0:Nat} {al:Option (List Nat)} {h:qk} {α:Type}
def zw (l:List α) (i:Int):Option α:=if 0≤i then l[i.toNat]? else none
theorem qfm {l:List α} {i:Nat}:zw l (i:Int)=l[i]?:=by simp [zw]
theorem q9 {z:Nat} {f:α→AVal} {l:Option (List α)} {k:IntKind} {i:Int} {x:α} (hx:zw (l.getD []) i=some x):qmq z h (some (sl z f l)) (some (.int k i))=some ⟨.vptr (f x),false,none,h⟩:=by
 unfold zw at hx
 by_cases hi:0≤i
 ·rw [if_pos hi] at hx
  obtain ⟨n,rfl⟩:∃ n:Nat,i=(n:Int):=⟨i.toNat,by omega⟩
  exact jff (by simpa using hx)
 ·rw [if_neg hi] at hx; cases hx
theorem j0 {s:List UInt8} {k:IntKind} {i:Int} {c:UInt8} (hx:zw s i=some c):qk7 h (some (.str s)) (some (.int k i))=some ⟨.int .u8 (c.toNat:Int),false,none,h⟩:=by
 unfold zw at hx
 by_cases hi:0≤i
 ·rw [if_pos hi] at hx
  obtain ⟨n,rfl⟩:∃ n:Nat,i=(n:Int):=⟨i.toNat,by omega⟩
  exact q3t (by simpa using hx)
 ·rw [if_neg hi] at hx; cases hx
end
section
variable {h:qk}
@[go_sem] theorem jd1 {agg:Bool} {len sz b o n:Nat} {k:IntKind}:qdf agg len sz h (some (.ptr b o)) (some (.int k (no_index (OfNat.ofNat n:Int))))=ifR (decide ((OfNat.ofNat n:Nat) < len)) (some ⟨.ptr b (o + (OfNat.ofNat n:Nat) * sz),false,none,h⟩):=by
 have e:(OfNat.ofNat n:Int)=(n:Int):=rfl
 have e':(OfNat.ofNat n:Nat)=n:=rfl
 rw [e,e']
 by_cases hn:n < len
 ·simp [qdf,qeh,qp9 hn,hn,ifR,val]
 ·have hi:qjw len (n:Int)=none:=by unfold qjw; rw [if_neg (by omega)]
  simp [qdf,qeh,hi,hn,ifR]
@[go_sem] theorem jbz {agg:Bool} {len sz n:Nat} {k:IntKind} {cs:List AVal}:qdf agg len sz h (some (.vptr (.agg cs))) (some (.int k (no_index (OfNat.ofNat n:Int))))=ifR (decide ((OfNat.ofNat n:Nat) < len)) (qen agg h (Go.Abs.part agg cs ((OfNat.ofNat n:Nat) * sz) sz)):=by
 have e:(OfNat.ofNat n:Int)=(n:Int):=rfl
 have e':(OfNat.ofNat n:Nat)=n:=rfl
 rw [e,e']
 by_cases hn:n < len
 ·simp [qdf,qeh,qp9 hn,hn,ifR,qen]; rfl
 ·have hi:qjw len (n:Int)=none:=by unfold qjw; rw [if_neg (by omega)]
  simp [qdf,qeh,hi,hn,ifR]
end
def qd6 (k:IntKind) (x y:Int):Option Int:=if y=0 then none else some (qf k (x.tdiv y))
def qeq (x y:Int):Option Int:=if y=0 then none else some (x.tmod y)
theorem qat {k:IntKind} {x y v:Int} (h:qd6 k x y=some v):zk .quo (.int k x) (.int k y)=some (.int k v):=by
 unfold qd6 at h
 by_cases hy:y=0
 ·rw [if_pos hy] at h; cases h
 ·rw [if_neg hy] at h; cases h
  have:(y == 0)=false:=by simp [hy]
  simp [zk,qa7,this]
theorem qan {k:IntKind} {x y v:Int} (h:qeq x y=some v):zk .rem (.int k x) (.int k y)=some (.int k v):=by
 unfold qeq at h
 by_cases hy:y=0
 ·rw [if_pos hy] at h; cases h
 ·rw [if_neg hy] at h; cases h
  have:(y == 0)=false:=by simp [hy]
  simp [zk,qa7,this]
def shO (op:BinOp) (k:IntKind) (x y:Int):Option Int:=match qd3 op k x y with
 | some (.int _ v)=>some v
 | _=>none
abbrev qn1:=shO .shr
theorem qkv {k:IntKind} {k':IntKind} {x y v:Int} (h:qn1 k x y=some v):zk .shr (.int k x) (.int k' y)=some (.int k v):=by
 simp only [qn1,shO,qd3] at h
 simp only [zk,qd3]
 cases hy:decide (y < 0) with
 | true=>rw [hy] at h; cases h
 | false=>rw [hy] at h; simp only [cond_false] at h ⊢; cases h; rfl
def ql5 (op:BinOp) (k:IntKind) (x y:Int):Int:=match qa7 op k x y with
 | some (.int _ v)=>v
 | _=>0
@[go_sem] theorem jvz {k:IntKind} {x y:Int}:zk .and (.int k x) (.int k y)=some (.int k (ql5 .and k x y)):=by simp [zk,qa7,ql5]
def q7n (a b:List UInt8):Option (List UInt8):=if a.length + b.length≤4611686018427387904 then some (a++b) else none
theorem q96 {a b v:List UInt8} (h:q7n a b=some v):zk .add (.str a) (.str b)=some (.str v):=by
 unfold q7n at h
 by_cases hl:a.length + b.length≤4611686018427387904
 ·rw [if_pos hl] at h; cases h
  simp only [zk,qlg,qaw,hl,decide_true,cond_true]
 ·rw [if_neg hl] at h; cases h
section
variable {p:ju} {xc:XC} {h0:Nat} {al:Option (List Nat)} {e:Env} {h:qk}
def q2k (k:IntKind) (h:qk) (x:Option AVal):Option ORes:=match x with
 | some (.int _ n)=>val h (.int k (qf k n))
 | _=>none
@[go_sem] theorem jpd {k k':IntKind} {n:Int}:q2k k h (some (.int k' n))=some ⟨.int k (qf k n),false,none,h⟩:=rfl
@[go_sem] theorem jva {k:IntKind} {x:qu}:qg p xc h0 al e h (.conv k x)=q2k k h (ql e x):=by
 simp only [qg,qr,q2k]
 cases ql e x with
 | none=>rfl
 | some v=>cases v <;> rfl
def qwe (h:qk) (x:Option AVal):Option ORes:=match x with
 | some (.str s)=>val h (.str s)
 | some (.int _ n)=>val h (.str (Utf8.encode n).data.toList)
 | _=>none
@[go_sem] theorem jfw {k:IntKind} {n:Int}:qwe h (some (.int k n))=some ⟨.str (Utf8.encode n).data.toList,false,none,h⟩:=rfl
@[go_sem] theorem jdb {s:List UInt8}:qwe h (some (.str s))=some ⟨.str s,false,none,h⟩:=rfl
def qn8 (h:qk) (x:Option AVal):Option ORes:=match x with
 | some (.ptr b o)=>val h (.ptr b o)
 | some (.vptr v)=>val h (.vptr v)
 | some (.fn (.func f) a b)=>val h (.fn (.func f) a b)
 | _=>none
@[go_sem] theorem jel {b o:Nat}:qn8 h (some (.ptr b o))=some ⟨.ptr b o,false,none,h⟩:=rfl
@[go_sem] theorem jcf {v:AVal}:qn8 h (some (.vptr v))=some ⟨.vptr v,false,none,h⟩:=rfl
@[go_sem] theorem jg2 {f:Nat} {a b:List AVal}:qn8 h (some (.fn (.func f) a b))=some ⟨.fn (.func f) a b,false,none,h⟩:=rfl
def jcn (agg:Bool) (off n:Nat) (h:qk) (x:Option AVal):Option ORes:=match x with
 | some (.agg cs)=>qav h (Go.Abs.part agg cs off n)
 | _=>none
@[go_sem] theorem jhj {agg:Bool} {off n:Nat} {cs:List AVal}:jcn agg off n h (some (.agg cs))=qav h (Go.Abs.part agg cs off n):=rfl
def jus (agg:Bool) (len n:Nat) (h:qk) (x i:Option AVal):Option ORes:=match x,i with
 | some (.agg cs),some j=>(match idx len j with
  | some j=>qav h (Go.Abs.part agg cs (j * n) n)
  | none=>none)
 | _,_=>none
end
section
variable {p:ju} {xc:XC} {h0:Nat} {al:Option (List Nat)} {e:Env} {h:qk} {α:Type}
def qjv (n dflt:Nat):Option Int→Option Nat
 | none=>some dflt
 | some i=>if 0≤i∧i≤n then some i.toNat else none
def q73 (s:List α) (lo hi:Option Int):Option (List α):=match qjv s.length s.length hi with
 | some j=>(match qjv j 0 lo with
  | some i=>some ((s.take j).drop i)
  | none=>none)
 | none=>none
def qo9 (o:Option (List α)) (lo hi:Option Int):Option (Option (List α)):=match q73 (o.getD []) lo hi with
 | some l=>some (o.map fun _=>l)
 | none=>none
def qqa (dflt n:Nat):Option (Option AVal)→Option Nat
 | none=>some dflt
 | some (some v)=>qpg n v
 | some none=>none
theorem jid {dflt n:Nat} {x:Option qu}:bnd e dflt n x=qqa dflt n (x.map (ql e)):=by
 cases x with
 | none=>rfl
 | some x=>simp only [bnd,Option.map_some,qqa]; cases ql e x <;> rfl
theorem ja8 {n d:Nat} {k:IntKind} {i:Int}:qpg n (.int k i)=qjv n d (some i):=by
 unfold qpg qjv
 cases i with
 | ofNat m=>
  simp only []
  by_cases hm:m≤n
  ·rw [if_pos ⟨by simp,by simpa using hm⟩,Nat.ble_eq_true_of_le hm]; rfl
  ·rw [if_neg (by simp; omega)]
   cases hb:Nat.ble m n with
   | true=>exact absurd (Nat.le_of_ble_eq_true hb) hm
   | false=>rfl
 | negSucc m=>simp
def q76 (k:IntKind):Option Int→Option (Option AVal)
 | none=>none
 | some i=>some (some (.int k i))
theorem q5r {d n:Nat} {k:IntKind} {x:Option Int}:qqa d n (q76 k x)=qjv n d x:=by
 cases x with
 | none=>rfl
 | some i=>exact ja8
def qsw (sz:Nat) (h:qk) (x:Option AVal) (lo hi:Option (Option AVal)):Option ORes:=match x with
 | some (.list n sz' xs)=>bif Nat.beq sz sz' || xs.isEmpty then (match qqa xs.length xs.length hi with
  | some j=>(match qqa 0 j lo with
   | some i=>val h (.list n sz' ((xs.take j).drop i))
   | none=>none)
  | none=>none) else none
 | some (.ms b o len)=>(match qqa len len hi with
  | some j=>(match qqa 0 j lo with
   | some i=>bif Nat.beq i 0 || Nat.blt i j then val h (.ms b (o + i * sz) (j - i)) else none
   | none=>none)
  | none=>none)
 | _=>none
attribute [go_sem] Option.map_some Option.map_none
@[go_sem] theorem jt1 {sz:Nat} {x:qu} {lo hi:Option qu}:qg p xc h0 al e h (.slice sz x lo hi)=qsw sz h (ql e x) (lo.map (ql e)) (hi.map (ql e)):=by
 simp only [qg,qr,qsw,jid]
 cases ql e x with
 | none=>rfl
 | some v=>cases v <;> rfl
theorem jnk {z:Nat} {k k':IntKind} {f:α→AVal} {o v:Option (List α)} {lo hi:Option Int} (hv:qo9 o lo hi=some v):qsw z h (some (sl z f o)) (q76 k lo) (q76 k' hi)=some ⟨sl z f v,false,none,h⟩:=by
 unfold qo9 q73 at hv
 cases o with
 | none=>
  simp only [sl,qsw,List.isEmpty_nil,Bool.or_true,cond_true,q5r]
  simp only [Option.getD_none] at hv
  cases h1:qjv ([]:List α).length ([]:List α).length hi with
  | none=>rw [h1] at hv; cases hv
  | some j=>
   rw [h1] at hv
   simp only [] at hv
   cases h2:qjv j 0 lo with
   | none=>rw [h2] at hv; cases hv
   | some i=>
    rw [h2] at hv
    cases hv
    simp only [List.length_nil] at h1
    simp only [List.length_nil,h1,h2,List.take_nil,List.drop_nil]
    rfl
 | some l=>
  simp only [sl,qsw,qom,decide_true,Bool.true_or,cond_true,q5r,List.length_map]
  simp only [Option.getD_some] at hv
  cases h1:qjv l.length l.length hi with
  | none=>rw [h1] at hv; cases hv
  | some j=>
   rw [h1] at hv
   simp only [] at hv
   cases h2:qjv j 0 lo with
   | none=>rw [h2] at hv; cases hv
   | some i=>
    rw [h2] at hv
    cases hv
    simp only [h2,val,Option.map_some,List.map_drop,List.map_take]
theorem qxv {z:Nat} {k k':IntKind} {f:α→AVal} {o v:Option (List α)} {lo hi:Int} (hv:qo9 o (some lo) (some hi)=some v):qsw z h (some (sl z f o)) (some (some (.int k lo))) (some (some (.int k' hi)))=some ⟨sl z f v,false,none,h⟩:=jnk hv
end
section
variable {h:qk} {α:Type}
def apS (o:Option (List α)) (ys:List α):Option (List α):=match o,ys with
 | none,[]=>none
 | o,ys=>some (o.getD []++ys)
def apO (o:Option (List α)) (ys:List α):Option (Option (List α)):=if (o.getD []).length + ys.length≤1073741824 then some (apS o ys) else none
theorem qtm {z b:Nat} {own:Option Nat} {f:α→AVal} {o:Option (List α)} {ys:List α} {v:Option (List α)} {y:AVal} (hz:0 < z) (hb:b≤4096) (hy:yy z y=some (ys.map f)) (hv:apO o ys=some v)
  (ho:o=none∨own.isSome=true):appR z b h own (some (sl z f o)) (some y)=some ⟨sl z f v,true,own,h⟩:=by
 unfold apO at hv
 by_cases hl:(o.getD []).length + ys.length≤1073741824
 ·rw [if_pos hl] at hv; cases hv
  cases o with
  | none=>
   simp only [sl,appR,appR.appS,hy,ifR,Bool.true_or,List.isEmpty_nil,Bool.and_true,Bool.or_true,List.length_nil,List.length_map,qaw,qcx,hz,hb,decide_true]
   simp only [Option.getD_none,List.length_nil] at hl
   simp only [hl,decide_true,Bool.and_self,Bool.or_true]
   cases ys with
   | nil=>rfl
   | cons y ys=>simp [qe1,apS,sl]
  | some l=>
   have ho':own.isSome=true:=by rcases ho with h | h; cases h; exact h
   simp only [sl,appR,appR.appS,hy,ifR,ho',Bool.or_true,qom,qaw,qcx,hz,hb,decide_true,Bool.true_or,List.length_map]
   simp only [Option.getD_some] at hl
   simp only [hl,decide_true,Bool.and_self]
   simp [qe1,apS,sl]
 ·rw [if_neg hl] at hv; cases hv
theorem qxx {z b t:Nat} {f:α→AVal} {o o2 v:Option (List α)} (hv:apO o (o2.getD [])=some v):appR (z + 1) b h (some t) (some (sl (z + 1) f o)) (some (sl (z + 1) f o2))=ifR (decide (b≤4096)) (some ⟨sl (z + 1) f v,true,some t,h⟩):=by
 by_cases hb:b≤4096
 ·rw [qtm (by omega) hb jck hv (.inr rfl)]; simp [ifR,hb]
 ·have hb':decide (b≤4096)=false:=by simp [hb]
  rw [hb']
  cases o with
  | none=>simp [sl,appR,appR.appS,ifR,hb,qaw]; split <;> rfl
  | some l=>simp [sl,appR,appR.appS,ifR,hb,qaw]; split <;> rfl
theorem qkn {z b t:Nat} {f:α→AVal} {x:α} {y:AVal} {o v:Option (List α)} (hz:0 < z) (hy:yy z y=some [f x]) (hv:apO o [x]=some v):appR z b h (some t) (some (sl z f o)) (some y)=ifR (decide (b≤4096)) (some ⟨sl z f v,true,some t,h⟩):=by
 by_cases hb:b≤4096
 ·rw [qtm hz hb hy hv (.inr rfl)]; simp [ifR,hb]
 ·have hb':decide (b≤4096)=false:=by simp [hb]
  rw [hb']
  cases o with
  | none=>simp [sl,appR,appR.appS,ifR,hb,hy,qaw]
  | some l=>simp [sl,appR,appR.appS,ifR,hb,hy,qaw]
theorem qi6 {z b t:Nat} {f:α→AVal} {o2 v:Option (List α)} (hv:apO (some []) (o2.getD [])=some v):appR (z + 1) b h (some t) (some (.list false (z + 1) [])) (some (sl (z + 1) f o2))=ifR (decide (b≤4096)) (some ⟨sl (z + 1) f v,true,some t,h⟩):=
 qxx (o:=some []) hv
end
def qao (s:List UInt8):AVal:=.str s
@[go_sem] theorem jl1 {h0:Nat} {al:Option (List Nat)} {h:qk} {b:List UInt8}:qa9 h0 al false 1 h (some (.vptr (qao b)))=some ⟨.str b,false,none,h⟩:=rfl
@[go_sem] theorem jl9 {n z:Nat} {l:Option (List (List UInt8))}:below n (sl z qao l)=true:=qfn fun _=>rfl
theorem qrd {b t:Nat} {h:qk} {bb:Bool} {x:Int} {o v:Option (List Int)} (hv:apO o [x]=some v):appR 1 b h (some t) (some (sl 1 qo o)) (some (.list bb 1 [.int .i64 x]))=ifR (decide (b≤4096)) (some ⟨sl 1 qo v,true,some t,h⟩):=qkn (by omega) rfl hv
theorem q1t {b t:Nat} {h:qk} {bb:Bool} {x:List UInt8} {o v:Option (List (List UInt8))} (hv:apO o [x]=some v):appR 1 b h (some t) (some (sl 1 qao o)) (some (.list bb 1 [.str x]))=ifR (decide (b≤4096)) (some ⟨sl 1 qao v,true,some t,h⟩):=qkn (by omega) rfl hv
theorem z6 {p:ju} {xc:XC} {k:Nat} {args:List AVal} {v v':AVal} {o:Bool} {h:qk} (hp:p.prims k=none) (hc:jl p xc k args []=some (v,o,h)) (hz:freezeR h v=some v') (hv:below 0 v'=true) (hl:v.isList=true):qc p xc k args=some (v',o):=by
 rw [ym hp hc hz hv,hl,Bool.and_true]
structure GRat where
 num:Int
 den:Int
open Classical in
noncomputable def exO {α:Type} (P:Prop) (v:α):Option α:=if P then some v else none
theorem qxg {α:Type} {P:Prop} {v r:α} (h:exO P v=some r):P∧v=r:=by
 unfold exO at h
 split at h
 ·rename_i hp; cases h; exact ⟨hp,rfl⟩
 ·cases h
theorem q3n {α:Type} {P:Prop} {v:α} (h:P):exO P v=some v:=by unfold exO; rw [if_pos h]
section
variable {p:ju} {xc:XC} {h0:Nat} {al:Option (List Nat)} {e:Env} {h:qk} {α:Type}
def jfh (own:Option Nat) (v:AVal) (r:Option qk):Option ORes:=match r with
 | some h'=>some ⟨v,false,own,h'⟩
 | none=>none
@[go_sem] theorem jgi {own:Option Nat} {v:AVal}:jfh own v (some h)=some ⟨v,false,own,h⟩:=rfl
@[go_sem] theorem jnd {z:Nat} {f:α→AVal} {o:Option (List α)}:qx0 0 false h (some (sl z f o))=some ⟨.bool o.isNone,false,none,h⟩:=by cases o <;> rfl
theorem qfl {z b:Nat} {f:α→AVal} {x:α} {y:AVal} {o v:Option (List α)} (hz:0 < z) (hy:yy z y=some [f x]) (hn:o.isNone=true) (hv:apO o [x]=some v):appR z b h none (some (sl z f o)) (some y)=ifR (decide (b≤4096)) (some ⟨sl z f v,true,none,h⟩):=by
 cases o with
 | some l=>cases hn
 | none=>
  by_cases hb:b≤4096
  ·rw [qtm hz hb hy hv (.inl rfl)]; simp [ifR,hb]
  ·have hb':decide (b≤4096)=false:=by simp [hb]
   rw [hb']
   simp [sl,appR,appR.appS,ifR,hb,hy,qaw]
theorem qsf {b:Nat} {bb:Bool} {x:Int} {o v:Option (List Int)} (hv:apO o [x]=some v) (hn:o.isNone=true):appR 1 b h none (some (sl 1 qo o)) (some (.list bb 1 [.int .i64 x]))=ifR (decide (b≤4096)) (some ⟨sl 1 qo v,true,none,h⟩):=qfl (by omega) rfl hn hv
attribute [go_sem] Nat.le_refl
end
@[go_sem] theorem jvg {h:qk} {a b c d:Int}:q27 [.int,.int] true h (some (.agg [.int .i64 a,.int .i64 b])) (some (.agg [.int .i64 c,.int .i64 d]))=some ⟨.bool (!(decide (a=c) && decide (b=d))),false,none,h⟩:=by
 show (match yf [.int,.int] [.int .i64 a,.int .i64 b] [.int .i64 c,.int .i64 d] with | some t=>val h (.bool (bif true then !t else t)) | none=>none)=_
 have:yf [.int,.int] [.int .i64 a,.int .i64 b] [.int .i64 c,.int .i64 d]=some (decide (a=c) && decide (b=d)):=by
  have e:∀ x y:Int,(x == y)=decide (x=y):=fun x y=>by by_cases h:x=y <;> simp [h]
  simp only [yf,qam,e,decide_true,cond_true]
  by_cases h1:a=c <;> by_cases h2:b=d <;> simp [h1,h2]
 rw [this]
 rfl
@[go_sem] theorem jvj {h:qk} {a0 a1 a2 a3 b1000 b1001 b1002 b1003:Int}:q27 [.int,.int,.int,.int] false h (some (.agg [.int .i64 a0,.int .i64 a1,.int .i64 a2,.int .i64 a3])) (some (.agg [.int .i64 b1000,.int .i64 b1001,.int .i64 b1002,.int .i64 b1003]))=some ⟨.bool (decide (a0=b1000) && decide (a1=b1001) && decide (a2=b1002) && decide (a3=b1003)),false,none,h⟩:=by
 show (match yf [.int,.int,.int,.int] [.int .i64 a0,.int .i64 a1,.int .i64 a2,.int .i64 a3] [.int .i64 b1000,.int .i64 b1001,.int .i64 b1002,.int .i64 b1003] with | some t=>val h (.bool (bif false then !t else t)) | none=>none)=_
 have:yf [.int,.int,.int,.int] [.int .i64 a0,.int .i64 a1,.int .i64 a2,.int .i64 a3] [.int .i64 b1000,.int .i64 b1001,.int .i64 b1002,.int .i64 b1003]=some (decide (a0=b1000) && decide (a1=b1001) && decide (a2=b1002) && decide (a3=b1003)):=by
  have e:∀ x y:Int,(x == y)=decide (x=y):=fun x y=>by by_cases h:x=y <;> simp [h]
  simp only [yf,qam,e,decide_true,cond_true]
  by_cases h0:a0=b1000 <;> by_cases h1:a1=b1001 <;> by_cases h2:a2=b1002 <;> by_cases h3:a3=b1003 <;> simp [h0,h1,h2,h3]
 rw [this]
 rfl
variable {h:qk}
theorem q2e {b:Nat} {bb:Bool} {x:List UInt8} {o v:Option (List (List UInt8))} (hv:apO o [x]=some v) (hn:o.isNone=true):appR 1 b h none (some (sl 1 qao o)) (some (.list bb 1 [.str x]))=ifR (decide (b≤4096)) (some ⟨sl 1 qao v,true,none,h⟩):=qfl (by omega) rfl hn hv
theorem jw {b pos:Nat} {s:List UInt8} (hp:decide (pos < s.length)=true):qhg h b (some (.iter s pos))=qas (jz h b (.iter s (pos + (qn s pos).2))) (.tup [.bool true,.int .i64 pos,.int .i32 (qn s pos).1]):=q7i (of_decide_eq_true hp)
theorem q4i {b pos:Nat} {s:List UInt8} (hp:decide (pos < s.length)=false):qhg h b (some (.iter s pos))=some ⟨.tup [.bool false],false,none,h⟩:=q6e (of_decide_eq_false hp)
end Go.Z
