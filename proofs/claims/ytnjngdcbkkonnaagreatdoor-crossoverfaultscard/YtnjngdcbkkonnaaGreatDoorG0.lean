/-
  Functions in Option that mirror the machine's runs: the pieces.
-/
import Derived.Test.YtnjngdcbkkonnaaGreatDoorL1
set_option linter.unusedVariables false
set_option linter.unusedSimpArgs false
set_option maxRecDepth 100000
namespace Go.Z
open Go Go.Abs
def qd {α β:Type} (x:Option α) (f:α→Option β):Option β:=match x with
 | some a=>f a
 | none=>none
@[simp] theorem qe {α β:Type} {a:α} {f:α→Option β}:qd (some a) f=f a:=rfl
@[simp] theorem jsz {α β:Type} {f:α→Option β}:qd none f=none:=rfl
theorem qa {α β:Type} {x:Option α} {f:α→Option β} {r:β} (h:qd x f=some r):∃ a,x=some a∧f a=some r:=by
 cases x with
 | none=>cases h
 | some a=>exact ⟨a,rfl,h⟩
theorem qb {α:Type} {c:Bool} {a b r:α} (h:cond c a b=r):(c=true∧a=r)∨(c=false∧b=r):=by
 cases c
 ·exact .inr ⟨rfl,h⟩
 ·exact .inl ⟨rfl,h⟩
def itF {σ δ:Type} (f:σ→Option (σ ⊕ δ)):Nat→σ→Option δ
 | 0,_=>none
 | n + 1,s=>match f s with
  | none=>none
  | some (.inl s')=>itF f n s'
  | some (.inr d)=>some d
theorem qws {σ δ:Type} {f:σ→Option (σ ⊕ δ)} {d:δ}:∀ {n:Nat} {s:σ},itF f n s=some d→itF f (n + 1) s=some d
 | 0,_,h=>by cases h
 | n + 1,s,h=>by
  rw [itF] at h ⊢
  cases hf:f s with
  | none=>rw [hf] at h; cases h
  | some x=>
   rw [hf] at h
   cases x with
   | inl s'=>exact qws h
   | inr d'=>exact h
theorem q3n {σ δ:Type} {f:σ→Option (σ ⊕ δ)} {d:δ} {n m:Nat} {s:σ} (hm:n≤m) (h:itF f n s=some d):itF f m s=some d:=by
 induction hm with
 | refl=>exact h
 | step _ ih=>exact qws ih
open Classical in
noncomputable def itO {σ δ:Type} (f:σ→Option (σ ⊕ δ)) (s:σ):Option δ:=
 if h:∃ d n,itF f n s=some d then some (Classical.choose h) else none
theorem qnz {σ δ:Type} {f:σ→Option (σ ⊕ δ)} {s:σ} {d:δ}:itO f s=some d↔∃ n,itF f n s=some d:=by
 unfold itO
 constructor
 ·intro h
  split at h
  ·rename_i hh; cases h; exact Classical.choose_spec hh
  ·cases h
 ·rintro ⟨n,hn⟩
  have hh:∃ d n,itF f n s=some d:=⟨d,n,hn⟩
  rw [dif_pos hh]
  obtain ⟨m,hm⟩:=Classical.choose_spec hh
  have h1:=q3n (Nat.le_max_left n m) hn
  have h2:=q3n (Nat.le_max_right n m) hm
  rw [h1] at h2
  exact h2.symm
theorem qch {σ δ:Type} {f:σ→Option (σ ⊕ δ)} {s s':σ} (h:f s=some (.inl s')):itO f s=itO f s':=by
 apply Option.ext
 intro d
 rw [qnz,qnz]
 constructor
 ·rintro ⟨n,hn⟩
  cases n with
  | zero=>cases hn
  | succ n=>rw [itF,h] at hn; exact ⟨n,hn⟩
 ·rintro ⟨n,hn⟩
  exact ⟨n + 1,by rw [itF,h]; exact hn⟩
theorem qad {σ δ:Type} {f:σ→Option (σ ⊕ δ)} {s:σ} {d:δ} (h:f s=some (.inr d)):itO f s=some d:=
 qnz.2 ⟨1,by rw [itF,h]⟩
def zd {σ δ:Type} (p:js) (c:ACode) (St:σ→ASt) (Ex:δ→jg × ASt) (s:σ) (r:σ ⊕ δ):Prop:=match r with
 | .inl s'=>∃ st',X p c (St s)=some (.normal,st')∧gc (St s).heap.length st'=St s'
 | .inr d=>X p c (St s)=some (Ex d)
theorem qo {σ δ:Type} {p:js} {c:ACode} {St:σ→ASt} {Ex:δ→jg × ASt} {s s':σ} {st':ASt} (hx:X p c (St s)=some (.normal,st')) (hc:gc (St s).heap.length st'=St s'):zd p c St Ex s (.inl s'):=⟨st',hx,hc⟩
theorem qj {σ δ:Type} {p:js} {c:ACode} {St:σ→ASt} {Ex:δ→jg × ASt} {s:σ} {d:δ} (hx:X p c (St s)=some (Ex d)):zd p c St Ex s (.inr d):=hx
theorem q7p {σ δ:Type} {p:js} {c:ACode} {St:σ→ASt} {Ex:δ→jg × ASt} {f:σ→Option (σ ⊕ δ)} (hb:∀ s r,f s=some r→zd p c St Ex s r) (hX:∀ d,(Ex d).1 ≠ .normal) {d:δ}:
  ∀ {n:Nat} {s:σ},itF f n s=some d→X p (.loop c) (St s)=some (Ex d)
 | 0,_,h=>by cases h
 | n + 1,s,h=>by
  rw [itF] at h
  rw [qy7]
  cases hf:f s with
  | none=>rw [hf] at h; cases h
  | some x=>
   rw [hf] at h
   have hs:=hb s x hf
   cases x with
   | inl s'=>
    obtain ⟨st',h1,h2⟩:=hs
    rw [h1,qvl,h2]
    exact q7p hb hX h
   | inr d'=>
    cases h
    rw [show X p c (St s)=some (Ex d) from hs,q29 (hX d)]
theorem zi {σ δ:Type} {p:js} {c:ACode} {St:σ→ASt} {Ex:δ→jg × ASt} {f:σ→Option (σ ⊕ δ)} (hb:∀ s r,f s=some r→zd p c St Ex s r) (hX:∀ d,(Ex d).1 ≠ .normal) {s:σ} {d:δ} (h:itO f s=some d):X p (.loop c) (St s)=some (Ex d):=by
 obtain ⟨n,hn⟩:=qnz.1 h
 exact q7p hb hX hn
section
variable {h0:Nat} {al:Option (List Nat)} {h:ql} {α:Type}
def j7 (l:List α) (i:Int):Option α:=if 0≤i then l[i.toNat]? else none
theorem qhy {l:List α} {i:Nat}:j7 l (i:Int)=l[i]?:=by simp [j7]
theorem qw {z:Nat} {f:α→AVal} {l:Option (List α)} {k:IntKind} {i:Int} {x:α} (hx:j7 (l.getD []) i=some x):qp0 z h (some (sl z f l)) (some (.int k i))=some ⟨.vptr (f x),false,none,h⟩:=by
 unfold j7 at hx
 by_cases hi:0≤i
 ·rw [if_pos hi] at hx
  obtain ⟨n,rfl⟩:∃ n:Nat,i=(n:Int):=⟨i.toNat,by omega⟩
  exact jd7 (by simpa using hx)
 ·rw [if_neg hi] at hx; cases hx
theorem j4 {s:List UInt8} {k:IntKind} {i:Int} {c:UInt8} (hx:j7 s i=some c):qjq h (some (.str s)) (some (.int k i))=some ⟨.int .u8 (c.toNat:Int),false,none,h⟩:=by
 unfold j7 at hx
 by_cases hi:0≤i
 ·rw [if_pos hi] at hx
  obtain ⟨n,rfl⟩:∃ n:Nat,i=(n:Int):=⟨i.toNat,by omega⟩
  exact q4i (by simpa using hx)
 ·rw [if_neg hi] at hx; cases hx
end
section
variable {h:ql}
@[go_sem] theorem jct {agg:Bool} {len sz b o n:Nat} {k:IntKind}:qcx agg len sz h (some (.ptr b o)) (some (.int k (no_index (OfNat.ofNat n:Int))))=ifR (decide ((OfNat.ofNat n:Nat) < len)) (some ⟨.ptr b (o + (OfNat.ofNat n:Nat) * sz),false,none,h⟩):=by
 have e:(OfNat.ofNat n:Int)=(n:Int):=rfl
 have e':(OfNat.ofNat n:Nat)=n:=rfl
 rw [e,e']
 by_cases hn:n < len
 ·simp [qcx,qdi,qle hn,hn,ifR,val]
 ·have hi:qgb len (n:Int)=none:=by unfold qgb; rw [if_neg (by omega)]
  simp [qcx,qdi,hi,hn,ifR]
@[go_sem] theorem jaq {agg:Bool} {len sz n:Nat} {k:IntKind} {cs:List AVal}:qcx agg len sz h (some (.vptr (.agg cs))) (some (.int k (no_index (OfNat.ofNat n:Int))))=ifR (decide ((OfNat.ofNat n:Nat) < len)) (qer agg h (Go.Abs.part agg cs ((OfNat.ofNat n:Nat) * sz) sz)):=by
 have e:(OfNat.ofNat n:Int)=(n:Int):=rfl
 have e':(OfNat.ofNat n:Nat)=n:=rfl
 rw [e,e']
 by_cases hn:n < len
 ·simp [qcx,qdi,qle hn,hn,ifR,qer]; rfl
 ·have hi:qgb len (n:Int)=none:=by unfold qgb; rw [if_neg (by omega)]
  simp [qcx,qdi,hi,hn,ifR]
end
def qdx (k:IntKind) (x y:Int):Option Int:=if y=0 then none else some (qg k (x.tdiv y))
def qh7 (x y:Int):Option Int:=if y=0 then none else some (x.tmod y)
theorem qaj {k:IntKind} {x y v:Int} (h:qdx k x y=some v):zn .quo (.int k x) (.int k y)=some (.int k v):=by
 unfold qdx at h
 by_cases hy:y=0
 ·rw [if_pos hy] at h; cases h
 ·rw [if_neg hy] at h; cases h
  have:(y == 0)=false:=by simp [hy]
  simp [zn,qax,this]
theorem qcs {k:IntKind} {x y v:Int} (h:qh7 x y=some v):zn .rem (.int k x) (.int k y)=some (.int k v):=by
 unfold qh7 at h
 by_cases hy:y=0
 ·rw [if_pos hy] at h; cases h
 ·rw [if_neg hy] at h; cases h
  have:(y == 0)=false:=by simp [hy]
  simp [zn,qax,this]
def shO (op:BinOp) (k:IntKind) (x y:Int):Option Int:=match qdu op k x y with
 | some (.int _ v)=>some v
 | _=>none
abbrev qm4:=shO .shr
theorem qjn {k:IntKind} {k':IntKind} {x y v:Int} (h:qm4 k x y=some v):zn .shr (.int k x) (.int k' y)=some (.int k v):=by
 simp only [qm4,shO,qdu] at h
 simp only [zn,qdu]
 cases hy:decide (y < 0) with
 | true=>rw [hy] at h; cases h
 | false=>rw [hy] at h; simp only [cond_false] at h ⊢; cases h; rfl
def qkx (op:BinOp) (k:IntKind) (x y:Int):Int:=match qax op k x y with
 | some (.int _ v)=>v
 | _=>0
@[go_sem] theorem jvg {k:IntKind} {x y:Int}:zn .and (.int k x) (.int k y)=some (.int k (qkx .and k x y)):=by simp [zn,qax,qkx]
def q5k (a b:List UInt8):Option (List UInt8):=if a.length + b.length≤4611686018427387904 then some (a++b) else none
theorem q8b {a b v:List UInt8} (h:q5k a b=some v):zn .add (.str a) (.str b)=some (.str v):=by
 unfold q5k at h
 by_cases hl:a.length + b.length≤4611686018427387904
 ·rw [if_pos hl] at h; cases h
  simp only [zn,qka,qaq,hl,decide_true,cond_true]
 ·rw [if_neg hl] at h; cases h
section
variable {p:js} {xc:XC} {h0:Nat} {al:Option (List Nat)} {e:Env} {h:ql}
def qz2 (k:IntKind) (h:ql) (x:Option AVal):Option ORes:=match x with
 | some (.int _ n)=>val h (.int k (qg k n))
 | _=>none
@[go_sem] theorem jm2 {k k':IntKind} {n:Int}:qz2 k h (some (.int k' n))=some ⟨.int k (qg k n),false,none,h⟩:=rfl
@[go_sem] theorem jt8 {k:IntKind} {x:qx}:qh p xc h0 al e h (.conv k x)=qz2 k h (qk e x):=by
 simp only [qh,qt,qz2]
 cases qk e x with
 | none=>rfl
 | some v=>cases v <;> rfl
def qw4 (h:ql) (x:Option AVal):Option ORes:=match x with
 | some (.str s)=>val h (.str s)
 | some (.int _ n)=>val h (.str (Utf8.encode n).data.toList)
 | _=>none
@[go_sem] theorem jck {k:IntKind} {n:Int}:qw4 h (some (.int k n))=some ⟨.str (Utf8.encode n).data.toList,false,none,h⟩:=rfl
@[go_sem] theorem jen {s:List UInt8}:qw4 h (some (.str s))=some ⟨.str s,false,none,h⟩:=rfl
def qnt (h:ql) (x:Option AVal):Option ORes:=match x with
 | some (.ptr b o)=>val h (.ptr b o)
 | some (.vptr v)=>val h (.vptr v)
 | some (.fn (.func f) a b)=>val h (.fn (.func f) a b)
 | _=>none
@[go_sem] theorem jcw {b o:Nat}:qnt h (some (.ptr b o))=some ⟨.ptr b o,false,none,h⟩:=rfl
@[go_sem] theorem jao {v:AVal}:qnt h (some (.vptr v))=some ⟨.vptr v,false,none,h⟩:=rfl
@[go_sem] theorem jfp {f:Nat} {a b:List AVal}:qnt h (some (.fn (.func f) a b))=some ⟨.fn (.func f) a b,false,none,h⟩:=rfl
def jda (agg:Bool) (off n:Nat) (h:ql) (x:Option AVal):Option ORes:=match x with
 | some (.agg cs)=>qam h (Go.Abs.part agg cs off n)
 | _=>none
@[go_sem] theorem jla {agg:Bool} {off n:Nat} {cs:List AVal}:jda agg off n h (some (.agg cs))=qam h (Go.Abs.part agg cs off n):=rfl
def qmz (agg:Bool) (len n:Nat) (h:ql) (x i:Option AVal):Option ORes:=match x,i with
 | some (.agg cs),some j=>(match idx len j with
  | some j=>qam h (Go.Abs.part agg cs (j * n) n)
  | none=>none)
 | _,_=>none
@[go_sem] theorem jtl {agg:Bool} {len n:Nat} {x i:qx}:qh p xc h0 al e h (.index agg len n x i)=qmz agg len n h (qk e x) (qk e i):=by
 simp only [qh,qt,qmz]
 cases qk e x with
 | none=>cases qk e i <;> rfl
 | some v=>cases v <;> cases qk e i <;> rfl
@[go_sem] theorem jnv {agg:Bool} {len sz n:Nat} {k:IntKind} {cs:List AVal}:qmz agg len sz h (some (.agg cs)) (some (.int k (no_index (OfNat.ofNat n:Int))))=ifR (decide ((OfNat.ofNat n:Nat) < len)) (qam h (Go.Abs.part agg cs ((OfNat.ofNat n:Nat) * sz) sz)):=by
 have e:(OfNat.ofNat n:Int)=(n:Int):=rfl
 have e':(OfNat.ofNat n:Nat)=n:=rfl
 rw [e,e']
 by_cases hn:n < len
 ·simp [qmz,qdi,qle hn,hn,ifR]
 ·have hi:qgb len (n:Int)=none:=by unfold qgb; rw [if_neg (by omega)]
  simp [qmz,qdi,hi,hn,ifR]
end
section
variable {p:js} {xc:XC} {h0:Nat} {al:Option (List Nat)} {e:Env} {h:ql} {α:Type}
def qi6 (n dflt:Nat):Option Int→Option Nat
 | none=>some dflt
 | some i=>if 0≤i∧i≤n then some i.toNat else none
def q6s (s:List α) (lo hi:Option Int):Option (List α):=match qi6 s.length s.length hi with
 | some j=>(match qi6 j 0 lo with
  | some i=>some ((s.take j).drop i)
  | none=>none)
 | none=>none
def qof (o:Option (List α)) (lo hi:Option Int):Option (Option (List α)):=match q6s (o.getD []) lo hi with
 | some l=>some (o.map fun _=>l)
 | none=>none
def qpo (dflt n:Nat):Option (Option AVal)→Option Nat
 | none=>some dflt
 | some (some v)=>qow n v
 | some none=>none
theorem jgq {dflt n:Nat} {x:Option qx}:bnd e dflt n x=qpo dflt n (x.map (qk e)):=by
 cases x with
 | none=>rfl
 | some x=>simp only [bnd,Option.map_some,qpo]; cases qk e x <;> rfl
theorem q8q {n d:Nat} {k:IntKind} {i:Int}:qow n (.int k i)=qi6 n d (some i):=by
 unfold qow qi6
 cases i with
 | ofNat m=>
  simp only []
  by_cases hm:m≤n
  ·rw [if_pos ⟨by simp,by simpa using hm⟩,Nat.ble_eq_true_of_le hm]; rfl
  ·rw [if_neg (by simp; omega)]
   cases hb:Nat.ble m n with
   | true=>exact absurd (Nat.le_of_ble_eq_true hb) hm
   | false=>rfl
 | negSucc m=>simp
def q6h (k:IntKind):Option Int→Option (Option AVal)
 | none=>none
 | some i=>some (some (.int k i))
theorem q3u {d n:Nat} {k:IntKind} {x:Option Int}:qpo d n (q6h k x)=qi6 n d x:=by
 cases x with
 | none=>rfl
 | some i=>exact q8q
def qsi (sz:Nat) (h:ql) (x:Option AVal) (lo hi:Option (Option AVal)):Option ORes:=match x with
 | some (.list n sz' xs)=>bif Nat.beq sz sz' || xs.isEmpty then (match qpo xs.length xs.length hi with
  | some j=>(match qpo 0 j lo with
   | some i=>val h (.list n sz' ((xs.take j).drop i))
   | none=>none)
  | none=>none) else none
 | some (.ms b o len)=>(match qpo len len hi with
  | some j=>(match qpo 0 j lo with
   | some i=>bif Nat.beq i 0 || Nat.blt i j then val h (.ms b (o + i * sz) (j - i)) else none
   | none=>none)
  | none=>none)
 | _=>none
attribute [go_sem] Option.map_some Option.map_none
@[go_sem] theorem jtt {sz:Nat} {x:qx} {lo hi:Option qx}:qh p xc h0 al e h (.slice sz x lo hi)=qsi sz h (qk e x) (lo.map (qk e)) (hi.map (qk e)):=by
 simp only [qh,qt,qsi,jgq]
 cases qk e x with
 | none=>rfl
 | some v=>cases v <;> rfl
theorem jhu {z:Nat} {k k':IntKind} {f:α→AVal} {o v:Option (List α)} {lo hi:Option Int} (hv:qof o lo hi=some v):qsi z h (some (sl z f o)) (q6h k lo) (q6h k' hi)=some ⟨sl z f v,false,none,h⟩:=by
 unfold qof q6s at hv
 cases o with
 | none=>
  simp only [sl,qsi,List.isEmpty_nil,Bool.or_true,cond_true,q3u]
  simp only [Option.getD_none] at hv
  cases h1:qi6 ([]:List α).length ([]:List α).length hi with
  | none=>rw [h1] at hv; cases hv
  | some j=>
   rw [h1] at hv
   simp only [] at hv
   cases h2:qi6 j 0 lo with
   | none=>rw [h2] at hv; cases hv
   | some i=>
    rw [h2] at hv
    cases hv
    simp only [List.length_nil] at h1
    simp only [List.length_nil,h1,h2,List.take_nil,List.drop_nil]
    rfl
 | some l=>
  simp only [sl,qsi,qob,decide_true,Bool.true_or,cond_true,q3u,List.length_map]
  simp only [Option.getD_some] at hv
  cases h1:qi6 l.length l.length hi with
  | none=>rw [h1] at hv; cases hv
  | some j=>
   rw [h1] at hv
   simp only [] at hv
   cases h2:qi6 j 0 lo with
   | none=>rw [h2] at hv; cases hv
   | some i=>
    rw [h2] at hv
    cases hv
    simp only [h2,val,Option.map_some,List.map_drop,List.map_take]
theorem qvv {z:Nat} {k k':IntKind} {f:α→AVal} {o v:Option (List α)} {lo hi:Int} (hv:qof o (some lo) (some hi)=some v):qsi z h (some (sl z f o)) (some (some (.int k lo))) (some (some (.int k' hi)))=some ⟨sl z f v,false,none,h⟩:=jhu hv
end
section
variable {h:ql} {α:Type}
def apS (o:Option (List α)) (ys:List α):Option (List α):=match o,ys with
 | none,[]=>none
 | o,ys=>some (o.getD []++ys)
def apO (o:Option (List α)) (ys:List α):Option (Option (List α)):=if (o.getD []).length + ys.length≤1073741824 then some (apS o ys) else none
theorem qrv {z b:Nat} {own:Option Nat} {f:α→AVal} {o:Option (List α)} {ys:List α} {v:Option (List α)} {y:AVal} (hz:0 < z) (hb:b≤4096) (hy:yo z y=some (ys.map f)) (hv:apO o ys=some v)
  (ho:o=none∨own.isSome=true):appR z b h own (some (sl z f o)) (some y)=some ⟨sl z f v,true,own,h⟩:=by
 unfold apO at hv
 by_cases hl:(o.getD []).length + ys.length≤1073741824
 ·rw [if_pos hl] at hv; cases hv
  cases o with
  | none=>
   simp only [sl,appR,appR.appS,hy,ifR,Bool.true_or,List.isEmpty_nil,Bool.and_true,Bool.or_true,List.length_nil,List.length_map,qaq,qcn,hz,hb,decide_true]
   simp only [Option.getD_none,List.length_nil] at hl
   simp only [hl,decide_true,Bool.and_self,Bool.or_true]
   cases ys with
   | nil=>rfl
   | cons y ys=>simp [qel,apS,sl]
  | some l=>
   have ho':own.isSome=true:=by rcases ho with h | h; cases h; exact h
   simp only [sl,appR,appR.appS,hy,ifR,ho',Bool.or_true,qob,qaq,qcn,hz,hb,decide_true,Bool.true_or,List.length_map]
   simp only [Option.getD_some] at hl
   simp only [hl,decide_true,Bool.and_self]
   simp [qel,apS,sl]
 ·rw [if_neg hl] at hv; cases hv
theorem qv3 {z b t:Nat} {f:α→AVal} {o o2 v:Option (List α)} (hv:apO o (o2.getD [])=some v):appR (z + 1) b h (some t) (some (sl (z + 1) f o)) (some (sl (z + 1) f o2))=ifR (decide (b≤4096)) (some ⟨sl (z + 1) f v,true,some t,h⟩):=by
 by_cases hb:b≤4096
 ·rw [qrv (by omega) hb jcp hv (.inr rfl)]; simp [ifR,hb]
 ·have hb':decide (b≤4096)=false:=by simp [hb]
  rw [hb']
  cases o with
  | none=>simp [sl,appR,appR.appS,ifR,hb,qaq]; split <;> rfl
  | some l=>simp [sl,appR,appR.appS,ifR,hb,qaq]; split <;> rfl
theorem qjp {z b t:Nat} {f:α→AVal} {x:α} {y:AVal} {o v:Option (List α)} (hz:0 < z) (hy:yo z y=some [f x]) (hv:apO o [x]=some v):appR z b h (some t) (some (sl z f o)) (some y)=ifR (decide (b≤4096)) (some ⟨sl z f v,true,some t,h⟩):=by
 by_cases hb:b≤4096
 ·rw [qrv hz hb hy hv (.inr rfl)]; simp [ifR,hb]
 ·have hb':decide (b≤4096)=false:=by simp [hb]
  rw [hb']
  cases o with
  | none=>simp [sl,appR,appR.appS,ifR,hb,hy,qaq]
  | some l=>simp [sl,appR,appR.appS,ifR,hb,hy,qaq]
theorem qb1 {z b t:Nat} {f:α→AVal} {o2 v:Option (List α)} (hv:apO (some []) (o2.getD [])=some v):appR (z + 1) b h (some t) (some (.list false (z + 1) [])) (some (sl (z + 1) f o2))=ifR (decide (b≤4096)) (some ⟨sl (z + 1) f v,true,some t,h⟩):=
 qv3 (o:=some []) hv
end
def qae (s:List UInt8):AVal:=.str s
@[go_sem] theorem jim {h0:Nat} {al:Option (List Nat)} {h:ql} {b:List UInt8}:qaz h0 al false 1 h (some (.vptr (qae b)))=some ⟨.str b,false,none,h⟩:=rfl
@[go_sem] theorem jlh {n z:Nat} {l:Option (List (List UInt8))}:below n (sl z qae l)=true:=qe0 fun _=>rfl
theorem qq7 {b t:Nat} {h:ql} {bb:Bool} {x:Int} {o v:Option (List Int)} (hv:apO o [x]=some v):appR 1 b h (some t) (some (sl 1 qu o)) (some (.list bb 1 [.int .i64 x]))=ifR (decide (b≤4096)) (some ⟨sl 1 qu v,true,some t,h⟩):=qjp (by omega) rfl hv
theorem q1y {b t:Nat} {h:ql} {bb:Bool} {x:List UInt8} {o v:Option (List (List UInt8))} (hv:apO o [x]=some v):appR 1 b h (some t) (some (sl 1 qae o)) (some (.list bb 1 [.str x]))=ifR (decide (b≤4096)) (some ⟨sl 1 qae v,true,some t,h⟩):=qjp (by omega) rfl hv
theorem zt {p:js} {xc:XC} {k:Nat} {args:List AVal} {v v':AVal} {o:Bool} {h:ql} (hp:p.prims k=none) (hc:jl p xc k args []=some (v,o,h)) (hz:freezeR h v=some v') (hv:below 0 v'=true) (hl:v.isList=true):qc p xc k args=some (v',o):=by
 rw [qc9 hp hc hz hv,hl,Bool.and_true]
structure qz where
 num:Int
 den:Int
open Classical in
noncomputable def exO {α:Type} (P:Prop) (v:α):Option α:=if P then some v else none
theorem qu3 {α:Type} {P:Prop} {v r:α} (h:exO P v=some r):P∧v=r:=by
 unfold exO at h
 split at h
 ·rename_i hp; cases h; exact ⟨hp,rfl⟩
 ·cases h
theorem q4c {α:Type} {P:Prop} {v:α} (h:P):exO P v=some v:=by unfold exO; rw [if_pos h]
end Go.Z
/-
 Slices that are written,arrays of numbers,own slices that grow: the pieces for the printed walks.
-/
namespace Go.Z
open Go Go.Abs
section
variable {p:js} {xc:XC} {h0:Nat} {al:Option (List Nat)} {e:Env} {h:ql} {α:Type}
def jcm (own:Option Nat) (v:AVal) (r:Option ql):Option ORes:=match r with
 | some h'=>some ⟨v,false,own,h'⟩
 | none=>none
@[go_sem] theorem jf4 {own:Option Nat} {v:AVal}:jcm own v (some h)=some ⟨v,false,own,h⟩:=rfl
@[go_sem] theorem jlp {z:Nat} {f:α→AVal} {o:Option (List α)}:qvn 0 false h (some (sl z f o))=some ⟨.bool o.isNone,false,none,h⟩:=by cases o <;> rfl
theorem qeu {z b:Nat} {f:α→AVal} {x:α} {y:AVal} {o v:Option (List α)} (hz:0 < z) (hy:yo z y=some [f x]) (hn:o.isNone=true) (hv:apO o [x]=some v):appR z b h none (some (sl z f o)) (some y)=ifR (decide (b≤4096)) (some ⟨sl z f v,true,none,h⟩):=by
 cases o with
 | some l=>cases hn
 | none=>
  by_cases hb:b≤4096
  ·rw [qrv hz hb hy hv (.inl rfl)]; simp [ifR,hb]
  ·have hb':decide (b≤4096)=false:=by simp [hb]
   rw [hb']
   simp [sl,appR,appR.appS,ifR,hb,hy,qaq]
theorem qp9 {b:Nat} {bb:Bool} {x:Int} {o v:Option (List Int)} (hv:apO o [x]=some v) (hn:o.isNone=true):appR 1 b h none (some (sl 1 qu o)) (some (.list bb 1 [.int .i64 x]))=ifR (decide (b≤4096)) (some ⟨sl 1 qu v,true,none,h⟩):=qeu (by omega) rfl hn hv
attribute [go_sem] Nat.le_refl
end
end Go.Z
/-
 Comparisons of structs.
-/
namespace Go.Z
open Go Go.Abs
@[go_sem] theorem juu {h:ql} {a b c d:Int}:qvs [.int,.int] true h (some (.agg [.int .i64 a,.int .i64 b])) (some (.agg [.int .i64 c,.int .i64 d]))=some ⟨.bool (!(decide (a=c) && decide (b=d))),false,none,h⟩:=by
 show (match zy [.int,.int] [.int .i64 a,.int .i64 b] [.int .i64 c,.int .i64 d] with | some t=>val h (.bool (bif true then !t else t)) | none=>none)=_
 have:zy [.int,.int] [.int .i64 a,.int .i64 b] [.int .i64 c,.int .i64 d]=some (decide (a=c) && decide (b=d)):=by
  have e:∀ x y:Int,(x == y)=decide (x=y):=fun x y=>by by_cases h:x=y <;> simp [h]
  simp only [zy,ky,e,decide_true,cond_true]
  by_cases h1:a=c <;> by_cases h2:b=d <;> simp [h1,h2]
 rw [this]
 rfl
end Go.Z
/-
 Lists of texts: appends to a list that is nil.
-/
namespace Go.Z
open Go Go.Abs
variable {h:ql}
theorem q0k {b:Nat} {bb:Bool} {x:List UInt8} {o v:Option (List (List UInt8))} (hv:apO o [x]=some v) (hn:o.isNone=true):appR 1 b h none (some (sl 1 qae o)) (some (.list bb 1 [.str x]))=ifR (decide (b≤4096)) (some ⟨sl 1 qae v,true,none,h⟩):=qeu (by omega) rfl hn hv
theorem jr {b pos:Nat} {s:List UInt8} (hp:decide (pos < s.length)=true):qgp h b (some (.iter s pos))=qai (j0 h b (.iter s (pos + (qm s pos).2))) (.tup [.bool true,.int .i64 pos,.int .i32 (qm s pos).1]):=q6n (of_decide_eq_true hp)
theorem q20 {b pos:Nat} {s:List UInt8} (hp:decide (pos < s.length)=false):qgp h b (some (.iter s pos))=some ⟨.tup [.bool false],false,none,h⟩:=q38 (of_decide_eq_false hp)
end Go.Z
