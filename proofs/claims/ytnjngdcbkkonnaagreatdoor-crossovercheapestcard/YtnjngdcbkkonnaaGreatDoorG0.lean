/- Functions in Option that mirror the machine's runs. -/
import Derived.Test.YtnjngdcbkkonnaaGreatDoorL1
set_option linter.unusedVariables false
set_option linter.unusedSimpArgs false
set_option maxRecDepth 100000
namespace Go.Z
open Go Go.Abs
def qc {α β:Type} (x:Option α) (f:α→Option β):Option β:=match x with
 | some a=>f a
 | none=>none
@[simp] theorem qd {α β:Type} {a:α} {f:α→Option β}:qc (some a) f=f a:=rfl
@[simp] theorem ju7 {α β:Type} {f:α→Option β}:qc none f=none:=rfl
theorem qa {α β:Type} {x:Option α} {f:α→Option β} {r:β} (h:qc x f=some r):∃ a,x=some a∧f a=some r:=by
 cases x with
 | none=>cases h
 | some a=>exact ⟨a,rfl,h⟩
theorem qb {α:Type} {c:Bool} {a b r:α} (h:cond c a b=r):(c=true∧a=r)∨(c=false∧b=r):=by
 cases c
 ·exact .inr ⟨rfl,h⟩
 ·exact .inl ⟨rfl,h⟩
def itF {σ δ:Type} (f:σ→Option (σ ⊕ δ)):Nat→σ→Option δ
 | 0,_=>none
 | n + 1,s=>match f s with
  | none=>none
  | some (.inl s')=>itF f n s'
  | some (.inr d)=>some d
theorem qze {σ δ:Type} {f:σ→Option (σ ⊕ δ)} {d:δ}:∀ {n:Nat} {s:σ},itF f n s=some d→itF f (n + 1) s=some d
 | 0,_,h=>by cases h
 | n + 1,s,h=>by
  rw [itF] at h ⊢
  cases hf:f s with
  | none=>rw [hf] at h; cases h
  | some x=>
   rw [hf] at h
   cases x with
   | inl s'=>exact qze h
   | inr d'=>exact h
theorem q7e {σ δ:Type} {f:σ→Option (σ ⊕ δ)} {d:δ} {n m:Nat} {s:σ} (hm:n≤m) (h:itF f n s=some d):itF f m s=some d:=by
 induction hm with
 | refl=>exact h
 | step _ ih=>exact qze ih
open Classical in
noncomputable def itO {σ δ:Type} (f:σ→Option (σ ⊕ δ)) (s:σ):Option δ:=
 if h:∃ d n,itF f n s=some d then some (Classical.choose h) else none
theorem qq0 {σ δ:Type} {f:σ→Option (σ ⊕ δ)} {s:σ} {d:δ}:itO f s=some d↔∃ n,itF f n s=some d:=by
 unfold itO
 constructor
 ·intro h
  split at h
  ·rename_i hh; cases h; exact Classical.choose_spec hh
  ·cases h
 ·rintro ⟨n,hn⟩
  have hh:∃ d n,itF f n s=some d:=⟨d,n,hn⟩
  rw [dif_pos hh]
  obtain ⟨m,hm⟩:=Classical.choose_spec hh
  have h1:=q7e (Nat.le_max_left n m) hn
  have h2:=q7e (Nat.le_max_right n m) hm
  rw [h1] at h2
  exact h2.symm
theorem qab {σ δ:Type} {f:σ→Option (σ ⊕ δ)} {s s':σ} (h:f s=some (.inl s')):itO f s=itO f s':=by
 apply Option.ext
 intro d
 rw [qq0,qq0]
 constructor
 ·rintro ⟨n,hn⟩
  cases n with
  | zero=>cases hn
  | succ n=>rw [itF,h] at hn; exact ⟨n,hn⟩
 ·rintro ⟨n,hn⟩
  exact ⟨n + 1,by rw [itF,h]; exact hn⟩
theorem zy {σ δ:Type} {f:σ→Option (σ ⊕ δ)} {s:σ} {d:δ} (h:f s=some (.inr d)):itO f s=some d:=
 qq0.2 ⟨1,by rw [itF,h]⟩
def jt {σ δ:Type} (p:jl) (c:ACode) (St:σ→ASt) (Ex:δ→jb × ASt) (s:σ) (r:σ ⊕ δ):Prop:=match r with
 | .inl s'=>∃ st',X p c (St s)=some (.normal,st')∧gc (St s).heap.length st'=St s'
 | .inr d=>X p c (St s)=some (Ex d)
theorem qdi {σ δ:Type} {p:jl} {c:ACode} {St:σ→ASt} {Ex:δ→jb × ASt} {s s':σ} {st':ASt} (hx:X p c (St s)=some (.normal,st')) (hc:gc (St s).heap.length st'=St s'):jt p c St Ex s (.inl s'):=⟨st',hx,hc⟩
theorem qh {σ δ:Type} {p:jl} {c:ACode} {St:σ→ASt} {Ex:δ→jb × ASt} {s:σ} {d:δ} (hx:X p c (St s)=some (Ex d)):jt p c St Ex s (.inr d):=hx
theorem jbk {σ δ:Type} {p:jl} {c:ACode} {St:σ→ASt} {Ex:δ→jb × ASt} {f:σ→Option (σ ⊕ δ)} (hb:∀ s r,f s=some r→jt p c St Ex s r) (hX:∀ d,(Ex d).1 ≠ .normal) {d:δ}:
  ∀ {n:Nat} {s:σ},itF f n s=some d→X p (.loop c) (St s)=some (Ex d)
 | 0,_,h=>by cases h
 | n + 1,s,h=>by
  rw [itF] at h
  rw [q2y]
  cases hf:f s with
  | none=>rw [hf] at h; cases h
  | some x=>
   rw [hf] at h
   have hs:=hb s x hf
   cases x with
   | inl s'=>
    obtain ⟨st',h1,h2⟩:=hs
    rw [h1,qzv,h2]
    exact jbk hb hX h
   | inr d'=>
    cases h
    rw [show X p c (St s)=some (Ex d) from hs,q6o (hX d)]
theorem j9 {σ δ:Type} {p:jl} {c:ACode} {St:σ→ASt} {Ex:δ→jb × ASt} {f:σ→Option (σ ⊕ δ)} (hb:∀ s r,f s=some r→jt p c St Ex s r) (hX:∀ d,(Ex d).1 ≠ .normal) {s:σ} {d:δ} (h:itO f s=some d):X p (.loop c) (St s)=some (Ex d):=by
 obtain ⟨n,hn⟩:=qq0.1 h
 exact jbk hb hX hn
section
variable {h0:Nat} {al:Option (List Nat)} {h:qk} {α:Type}
def js (l:List α) (i:Int):Option α:=if 0≤i then l[i.toNat]? else none
theorem qei {l:List α} {i:Nat}:js l (i:Int)=l[i]?:=by simp [js]
theorem qu {z:Nat} {f:α→AVal} {l:Option (List α)} {k:IntKind} {i:Int} {x:α} (hx:js (l.getD []) i=some x):qnx z h (some (sl z f l)) (some (.int k i))=some ⟨.vptr (f x),false,none,h⟩:=by
 unfold js at hx
 by_cases hi:0≤i
 ·rw [if_pos hi] at hx
  obtain ⟨n,rfl⟩:∃ n:Nat,i=(n:Int):=⟨i.toNat,by omega⟩
  exact jh5 (by simpa using hx)
 ·rw [if_neg hi] at hx; cases hx
theorem jx {s:List UInt8} {k:IntKind} {i:Int} {c:UInt8} (hx:js s i=some c):qlp h (some (.str s)) (some (.int k i))=some ⟨.int .u8 (c.toNat:Int),false,none,h⟩:=by
 unfold js at hx
 by_cases hi:0≤i
 ·rw [if_pos hi] at hx
  obtain ⟨n,rfl⟩:∃ n:Nat,i=(n:Int):=⟨i.toNat,by omega⟩
  exact q6z (by simpa using hx)
 ·rw [if_neg hi] at hx; cases hx
end
section
variable {h:qk}
@[go_sem] theorem jjl {agg:Bool} {len sz b o n:Nat} {k:IntKind}:qc9 agg len sz h (some (.ptr b o)) (some (.int k (no_index (OfNat.ofNat n:Int))))=ifR (decide ((OfNat.ofNat n:Nat) < len)) (some ⟨.ptr b (o + (OfNat.ofNat n:Nat) * sz),false,none,h⟩):=by
 have e:(OfNat.ofNat n:Int)=(n:Int):=rfl
 have e':(OfNat.ofNat n:Nat)=n:=rfl
 rw [e,e']
 by_cases hn:n < len
 ·simp [qc9,qcp,qnb hn,hn,ifR,val]
 ·have hi:qhq len (n:Int)=none:=by unfold qhq; rw [if_neg (by omega)]
  simp [qc9,qcp,hi,hn,ifR]
@[go_sem] theorem jex {agg:Bool} {len sz n:Nat} {k:IntKind} {cs:List AVal}:qc9 agg len sz h (some (.vptr (.agg cs))) (some (.int k (no_index (OfNat.ofNat n:Int))))=ifR (decide ((OfNat.ofNat n:Nat) < len)) (qfi agg h (Go.Abs.part agg cs ((OfNat.ofNat n:Nat) * sz) sz)):=by
 have e:(OfNat.ofNat n:Int)=(n:Int):=rfl
 have e':(OfNat.ofNat n:Nat)=n:=rfl
 rw [e,e']
 by_cases hn:n < len
 ·simp [qc9,qcp,qnb hn,hn,ifR,qfi]; rfl
 ·have hi:qhq len (n:Int)=none:=by unfold qhq; rw [if_neg (by omega)]
  simp [qc9,qcp,hi,hn,ifR]
end
def qc7 (k:IntKind) (x y:Int):Option Int:=if y=0 then none else some (qg k (x.tdiv y))
def qjx (x y:Int):Option Int:=if y=0 then none else some (x.tmod y)
theorem yt {k:IntKind} {x y v:Int} (h:qc7 k x y=some v):zp .quo (.int k x) (.int k y)=some (.int k v):=by
 unfold qc7 at h
 by_cases hy:y=0
 ·rw [if_pos hy] at h; cases h
 ·rw [if_neg hy] at h; cases h
  have:(y == 0)=false:=by simp [hy]
  simp [zp,qa0,this]
theorem qcu {k:IntKind} {x y v:Int} (h:qjx x y=some v):zp .rem (.int k x) (.int k y)=some (.int k v):=by
 unfold qjx at h
 by_cases hy:y=0
 ·rw [if_pos hy] at h; cases h
 ·rw [if_neg hy] at h; cases h
  have:(y == 0)=false:=by simp [hy]
  simp [zp,qa0,this]
def shO (op:BinOp) (k:IntKind) (x y:Int):Option Int:=match qeh op k x y with
 | some (.int _ v)=>some v
 | _=>none
abbrev qp2:=shO .shr
theorem qm1 {k:IntKind} {k':IntKind} {x y v:Int} (h:qp2 k x y=some v):zp .shr (.int k x) (.int k' y)=some (.int k v):=by
 simp only [qp2,shO,qeh] at h
 simp only [zp,qeh]
 cases hy:decide (y < 0) with
 | true=>rw [hy] at h; cases h
 | false=>rw [hy] at h; simp only [cond_false] at h ⊢; cases h; rfl
def qny (op:BinOp) (k:IntKind) (x y:Int):Int:=match qa0 op k x y with
 | some (.int _ v)=>v
 | _=>0
@[go_sem] theorem j0m {k:IntKind} {x y:Int}:zp .and (.int k x) (.int k y)=some (.int k (qny .and k x y)):=by simp [zp,qa0,qny]
def q98 (a b:List UInt8):Option (List UInt8):=if a.length + b.length≤4611686018427387904 then some (a++b) else none
theorem jc4 {a b v:List UInt8} (h:q98 a b=some v):zp .add (.str a) (.str b)=some (.str v):=by
 unfold q98 at h
 by_cases hl:a.length + b.length≤4611686018427387904
 ·rw [if_pos hl] at h; cases h
  simp only [zp,ql2,qae,hl,decide_true,cond_true]
 ·rw [if_neg hl] at h; cases h
section
variable {p:jl} {xc:XC} {h0:Nat} {al:Option (List Nat)} {e:Env} {h:qk}
def q4z (k:IntKind) (h:qk) (x:Option AVal):Option ORes:=match x with
 | some (.int _ n)=>val h (.int k (qg k n))
 | _=>none
@[go_sem] theorem jso {k k':IntKind} {n:Int}:q4z k h (some (.int k' n))=some ⟨.int k (qg k n),false,none,h⟩:=rfl
@[go_sem] theorem jzk {k:IntKind} {x:qv}:qe p xc h0 al e h (.conv k x)=q4z k h (qj e x):=by
 simp only [qe,qr,q4z]
 cases qj e x with
 | none=>rfl
 | some v=>cases v <;> rfl
def qyf (h:qk) (x:Option AVal):Option ORes:=match x with
 | some (.str s)=>val h (.str s)
 | some (.int _ n)=>val h (.str (Utf8.encode n).data.toList)
 | _=>none
@[go_sem] theorem jjh {k:IntKind} {n:Int}:qyf h (some (.int k n))=some ⟨.str (Utf8.encode n).data.toList,false,none,h⟩:=rfl
@[go_sem] theorem jiz {s:List UInt8}:qyf h (some (.str s))=some ⟨.str s,false,none,h⟩:=rfl
def qgq (h:qk) (x:Option AVal):Option ORes:=match x with
 | some (.ptr b o)=>val h (.ptr b o)
 | some (.vptr v)=>val h (.vptr v)
 | some (.fn (.func f) a b)=>val h (.fn (.func f) a b)
 | _=>none
@[go_sem] theorem jhw {b o:Nat}:qgq h (some (.ptr b o))=some ⟨.ptr b o,false,none,h⟩:=rfl
@[go_sem] theorem je5 {v:AVal}:qgq h (some (.vptr v))=some ⟨.vptr v,false,none,h⟩:=rfl
@[go_sem] theorem jj0 {f:Nat} {a b:List AVal}:qgq h (some (.fn (.func f) a b))=some ⟨.fn (.func f) a b,false,none,h⟩:=rfl
@[go_sem] theorem jro {x:qv}:qe p xc h0 al e h (.nilCheck x)=qgq h (qj e x):=by
 simp only [qe,qr,qgq]; rfl
def jji (agg:Bool) (off n:Nat) (h:qk) (x:Option AVal):Option ORes:=match x with
 | some (.agg cs)=>qam h (Go.Abs.part agg cs off n)
 | _=>none
@[go_sem] theorem jrd {agg:Bool} {off n:Nat} {cs:List AVal}:jji agg off n h (some (.agg cs))=qam h (Go.Abs.part agg cs off n):=rfl
def qph (agg:Bool) (len n:Nat) (h:qk) (x i:Option AVal):Option ORes:=match x,i with
 | some (.agg cs),some j=>(match idx len j with
  | some j=>qam h (Go.Abs.part agg cs (j * n) n)
  | none=>none)
 | _,_=>none
@[go_sem] theorem jzg {agg:Bool} {len n:Nat} {x i:qv}:qe p xc h0 al e h (.index agg len n x i)=qph agg len n h (qj e x) (qj e i):=by
 simp only [qe,qr,qph]
 cases qj e x with
 | none=>cases qj e i <;> rfl
 | some v=>cases v <;> cases qj e i <;> rfl
@[go_sem] theorem jsr {agg:Bool} {len sz n:Nat} {k:IntKind} {cs:List AVal}:qph agg len sz h (some (.agg cs)) (some (.int k (no_index (OfNat.ofNat n:Int))))=ifR (decide ((OfNat.ofNat n:Nat) < len)) (qam h (Go.Abs.part agg cs ((OfNat.ofNat n:Nat) * sz) sz)):=by
 have e:(OfNat.ofNat n:Int)=(n:Int):=rfl
 have e':(OfNat.ofNat n:Nat)=n:=rfl
 rw [e,e']
 by_cases hn:n < len
 ·simp [qph,qcp,qnb hn,hn,ifR]
 ·have hi:qhq len (n:Int)=none:=by unfold qhq; rw [if_neg (by omega)]
  simp [qph,qcp,hi,hn,ifR]
end
section
variable {p:jl} {xc:XC} {h0:Nat} {al:Option (List Nat)} {e:Env} {h:qk} {α:Type}
def qkz (n dflt:Nat):Option Int→Option Nat
 | none=>some dflt
 | some i=>if 0≤i∧i≤n then some i.toNat else none
def jas (s:List α) (lo hi:Option Int):Option (List α):=match qkz s.length s.length hi with
 | some j=>(match qkz j 0 lo with
  | some i=>some ((s.take j).drop i)
  | none=>none)
 | none=>none
def qrf (o:Option (List α)) (lo hi:Option Int):Option (Option (List α)):=match jas (o.getD []) lo hi with
 | some l=>some (o.map fun _=>l)
 | none=>none
def qs3 (dflt n:Nat):Option (Option AVal)→Option Nat
 | none=>some dflt
 | some (some v)=>qru n v
 | some none=>none
theorem jnw {dflt n:Nat} {x:Option qv}:bnd e dflt n x=qs3 dflt n (x.map (qj e)):=by
 cases x with
 | none=>rfl
 | some x=>simp only [bnd,Option.map_some,qs3]; cases qj e x <;> rfl
theorem jd7 {n d:Nat} {k:IntKind} {i:Int}:qru n (.int k i)=qkz n d (some i):=by
 unfold qru qkz
 cases i with
 | ofNat m=>
  simp only []
  by_cases hm:m≤n
  ·rw [if_pos ⟨by simp,by simpa using hm⟩,Nat.ble_eq_true_of_le hm]; rfl
  ·rw [if_neg (by simp; omega)]
   cases hb:Nat.ble m n with
   | true=>exact absurd (Nat.le_of_ble_eq_true hb) hm
   | false=>rfl
 | negSucc m=>simp
def q9z (k:IntKind):Option Int→Option (Option AVal)
 | none=>none
 | some i=>some (some (.int k i))
theorem q6e {d n:Nat} {k:IntKind} {x:Option Int}:qs3 d n (q9z k x)=qkz n d x:=by
 cases x with
 | none=>rfl
 | some i=>exact jd7
def qvs (sz:Nat) (h:qk) (x:Option AVal) (lo hi:Option (Option AVal)):Option ORes:=match x with
 | some (.list n sz' xs)=>bif Nat.beq sz sz' || xs.isEmpty then (match qs3 xs.length xs.length hi with
  | some j=>(match qs3 0 j lo with
   | some i=>val h (.list n sz' ((xs.take j).drop i))
   | none=>none)
  | none=>none) else none
 | some (.ms b o len)=>(match qs3 len len hi with
  | some j=>(match qs3 0 j lo with
   | some i=>bif Nat.beq i 0 || Nat.blt i j then val h (.ms b (o + i * sz) (j - i)) else none
   | none=>none)
  | none=>none)
 | _=>none
attribute [go_sem] Option.map_some Option.map_none
@[go_sem] theorem jyr {sz:Nat} {x:qv} {lo hi:Option qv}:qe p xc h0 al e h (.slice sz x lo hi)=qvs sz h (qj e x) (lo.map (qj e)) (hi.map (qj e)):=by
 simp only [qe,qr,qvs,jnw]
 cases qj e x with
 | none=>rfl
 | some v=>cases v <;> rfl
theorem jq6 {z:Nat} {k k':IntKind} {f:α→AVal} {o v:Option (List α)} {lo hi:Option Int} (hv:qrf o lo hi=some v):qvs z h (some (sl z f o)) (q9z k lo) (q9z k' hi)=some ⟨sl z f v,false,none,h⟩:=by
 unfold qrf jas at hv
 cases o with
 | none=>
  simp only [sl,qvs,List.isEmpty_nil,Bool.or_true,cond_true,q6e]
  simp only [Option.getD_none] at hv
  cases h1:qkz ([]:List α).length ([]:List α).length hi with
  | none=>rw [h1] at hv; cases hv
  | some j=>
   rw [h1] at hv
   simp only [] at hv
   cases h2:qkz j 0 lo with
   | none=>rw [h2] at hv; cases hv
   | some i=>
    rw [h2] at hv
    cases hv
    simp only [List.length_nil] at h1
    simp only [List.length_nil,h1,h2,List.take_nil,List.drop_nil]
    rfl
 | some l=>
  simp only [sl,qvs,qic,decide_true,Bool.true_or,cond_true,q6e,List.length_map]
  simp only [Option.getD_some] at hv
  cases h1:qkz l.length l.length hi with
  | none=>rw [h1] at hv; cases hv
  | some j=>
   rw [h1] at hv
   simp only [] at hv
   cases h2:qkz j 0 lo with
   | none=>rw [h2] at hv; cases hv
   | some i=>
    rw [h2] at hv
    cases hv
    simp only [h2,val,Option.map_some,List.map_drop,List.map_take]
theorem q0x {z:Nat} {k k':IntKind} {f:α→AVal} {o v:Option (List α)} {lo hi:Int} (hv:qrf o (some lo) (some hi)=some v):qvs z h (some (sl z f o)) (some (some (.int k lo))) (some (some (.int k' hi)))=some ⟨sl z f v,false,none,h⟩:=jq6 hv
end
section
variable {h:qk} {α:Type}
def apS (o:Option (List α)) (ys:List α):Option (List α):=match o,ys with
 | none,[]=>none
 | o,ys=>some (o.getD []++ys)
def apO (o:Option (List α)) (ys:List α):Option (Option (List α)):=if (o.getD []).length + ys.length≤1073741824 then some (apS o ys) else none
theorem qvg {z b:Nat} {own:Option Nat} {f:α→AVal} {o:Option (List α)} {ys:List α} {v:Option (List α)} {y:AVal} (hz:0 < z) (hb:b≤4096) (hy:yq z y=some (ys.map f)) (hv:apO o ys=some v)
  (ho:o=none∨own.isSome=true):appR z b h own (some (sl z f o)) (some y)=some ⟨sl z f v,true,own,h⟩:=by
 unfold apO at hv
 by_cases hl:(o.getD []).length + ys.length≤1073741824
 ·rw [if_pos hl] at hv; cases hv
  cases o with
  | none=>
   simp only [sl,appR,appR.appS,hy,ifR,Bool.true_or,List.isEmpty_nil,Bool.and_true,Bool.or_true,List.length_nil,List.length_map,qae,qbm,hz,hb,decide_true]
   simp only [Option.getD_none,List.length_nil] at hl
   simp only [hl,decide_true,Bool.and_self,Bool.or_true]
   cases ys with
   | nil=>rfl
   | cons y ys=>simp [qfe,apS,sl]
  | some l=>
   have ho':own.isSome=true:=by rcases ho with h | h; cases h; exact h
   simp only [sl,appR,appR.appS,hy,ifR,ho',Bool.or_true,qic,qae,qbm,hz,hb,decide_true,Bool.true_or,List.length_map]
   simp only [Option.getD_some] at hl
   simp only [hl,decide_true,Bool.and_self]
   simp [qfe,apS,sl]
 ·rw [if_neg hl] at hv; cases hv
theorem qn6 {z b t:Nat} {f:α→AVal} {o o2 v:Option (List α)} (hv:apO o (o2.getD [])=some v):appR (z + 1) b h (some t) (some (sl (z + 1) f o)) (some (sl (z + 1) f o2))=ifR (decide (b≤4096)) (some ⟨sl (z + 1) f v,true,some t,h⟩):=by
 by_cases hb:b≤4096
 ·rw [qvg (by omega) hb q60 hv (.inr rfl)]; simp [ifR,hb]
 ·have hb':decide (b≤4096)=false:=by simp [hb]
  rw [hb']
  cases o with
  | none=>simp [sl,appR,appR.appS,ifR,hb,qae]; split <;> rfl
  | some l=>simp [sl,appR,appR.appS,ifR,hb,qae]; split <;> rfl
theorem qjj {z b t:Nat} {f:α→AVal} {x:α} {y:AVal} {o v:Option (List α)} (hz:0 < z) (hy:yq z y=some [f x]) (hv:apO o [x]=some v):appR z b h (some t) (some (sl z f o)) (some y)=ifR (decide (b≤4096)) (some ⟨sl z f v,true,some t,h⟩):=by
 by_cases hb:b≤4096
 ·rw [qvg hz hb hy hv (.inr rfl)]; simp [ifR,hb]
 ·have hb':decide (b≤4096)=false:=by simp [hb]
  rw [hb']
  cases o with
  | none=>simp [sl,appR,appR.appS,ifR,hb,hy,qae]
  | some l=>simp [sl,appR,appR.appS,ifR,hb,hy,qae]
theorem qaz {z b t:Nat} {f:α→AVal} {o2 v:Option (List α)} (hv:apO (some []) (o2.getD [])=some v):appR (z + 1) b h (some t) (some (.list false (z + 1) [])) (some (sl (z + 1) f o2))=ifR (decide (b≤4096)) (some ⟨sl (z + 1) f v,true,some t,h⟩):=
 qn6 (o:=some []) hv
end
def qbz (s:List UInt8):AVal:=.str s
@[go_sem] theorem jqt {h0:Nat} {al:Option (List Nat)} {h:qk} {b:List UInt8}:qa2 h0 al false 1 h (some (.vptr (qbz b)))=some ⟨.str b,false,none,h⟩:=rfl
@[go_sem] theorem jl1 {n z:Nat} {l:Option (List (List UInt8))}:below n (sl z qbz l)=true:=qdf fun _=>rfl
theorem qbr {b t:Nat} {h:qk} {bb:Bool} {x:Int} {o v:Option (List Int)} (hv:apO o [x]=some v):appR 1 b h (some t) (some (sl 1 qm o)) (some (.list bb 1 [.int .i64 x]))=ifR (decide (b≤4096)) (some ⟨sl 1 qm v,true,some t,h⟩):=qjj (by omega) rfl hv
theorem q38 {b t:Nat} {h:qk} {bb:Bool} {x:List UInt8} {o v:Option (List (List UInt8))} (hv:apO o [x]=some v):appR 1 b h (some t) (some (sl 1 qbz o)) (some (.list bb 1 [.str x]))=ifR (decide (b≤4096)) (some ⟨sl 1 qbz v,true,some t,h⟩):=qjj (by omega) rfl hv
theorem zk {p:jl} {xc:XC} {k:Nat} {args:List AVal} {v v':AVal} {o:Bool} {h:qk} (hp:p.prims k=none) (hc:jg p xc k args []=some (v,o,h)) (hz:freezeR h v=some v') (hv:below 0 v'=true) (hl:v.isList=true):qf p xc k args=some (v',o):=by
 rw [qch hp hc hz hv,hl,Bool.and_true]
structure qy where
 num:Int
 den:Int
open Classical in
noncomputable def exO {α:Type} (P:Prop) (v:α):Option α:=if P then some v else none
theorem qyn {α:Type} {P:Prop} {v r:α} (h:exO P v=some r):P∧v=r:=by
 unfold exO at h
 split at h
 ·rename_i hp; cases h; exact ⟨hp,rfl⟩
 ·cases h
theorem q6v {α:Type} {P:Prop} {v:α} (h:P):exO P v=some v:=by unfold exO; rw [if_pos h]
section
variable {p:jl} {xc:XC} {h0:Nat} {al:Option (List Nat)} {e:Env} {h:qk} {α:Type}
def q3m (h0 r sz bytes:Nat) (zero:List AVal) (h:qk) (n c:Option AVal):Option ORes:=match n,c with
 | some (.int .i64 (.ofNat n)),some (.int .i64 (.ofNat c))=>
  bif Nat.beq n c && Nat.ble n 1073741824 && Nat.ble bytes 4096 && Nat.beq zero.length sz && Nat.blt 0 sz && zero.all qo then
   (match newBox h0 h r (.cells (cellsOf (List.replicate n zero).flatten)) with
    | some h'=>val h' (.ms (h0 + r) 0 n)
    | none=>none) else none
 | _,_=>none
@[go_sem] theorem jy9 {r sz b:Nat} {z:List AVal} {n c:qv}:qe p xc h0 al e h (.mkslice (some r) sz b z n c)=q3m h0 r sz b z h (qj e n) (qj e c):=by
 simp only [qe,qx,q3m]
 rfl
def qx9 (h0 r sz bytes:Nat) (h:qk) (own:Option Nat) (x y:Option AVal):Option ORes:=match x,y with
 | some (.list false sz' []),some vy=>
  bif own.isSome && Nat.beq sz sz' then
   (match yq sz vy with
    | some ys=>
     bif Nat.ble ys.length 1073741824 && Nat.ble bytes 4096 && Nat.blt 0 sz then
      (match newBox h0 h r (.cells (cellsOf (ys.flatMap AVal.flat))) with
       | some h'=>some ⟨.ms (h0 + r) 0 ys.length,false,own,h'⟩
       | none=>none)
     else none
    | none=>none)
  else none
 | _,_=>none
@[go_sem] theorem jtl {r sz b:Nat} {x y:qv}:qe p xc h0 al e h (.append (some r) sz b x y)=qx9 h0 r sz b h (zi e x) (qj e x) (qj e y):=by
 simp only [qe,qx,qx9]
 rfl
def qzu (own:Option Nat) (v:AVal) (r:Option qk):Option ORes:=match r with
 | some h'=>some ⟨v,false,own,h'⟩
 | none=>none
@[go_sem] theorem jkf {own:Option Nat} {v:AVal}:qzu own v (some h)=some ⟨v,false,own,h⟩:=rfl
@[go_sem] theorem jls {z:Nat} {f:α→AVal} {o:Option (List α)}:q0t 0 false h (some (sl z f o))=some ⟨.bool o.isNone,false,none,h⟩:=by cases o <;> rfl
theorem qek {z b:Nat} {f:α→AVal} {x:α} {y:AVal} {o v:Option (List α)} (hz:0 < z) (hy:yq z y=some [f x]) (hn:o.isNone=true) (hv:apO o [x]=some v):appR z b h none (some (sl z f o)) (some y)=ifR (decide (b≤4096)) (some ⟨sl z f v,true,none,h⟩):=by
 cases o with
 | some l=>cases hn
 | none=>
  by_cases hb:b≤4096
  ·rw [qvg hz hb hy hv (.inl rfl)]; simp [ifR,hb]
  ·have hb':decide (b≤4096)=false:=by simp [hb]
   rw [hb']
   simp [sl,appR,appR.appS,ifR,hb,hy,qae]
theorem qe1 {b:Nat} {bb:Bool} {x:Int} {o v:Option (List Int)} (hv:apO o [x]=some v) (hn:o.isNone=true):appR 1 b h none (some (sl 1 qm o)) (some (.list bb 1 [.int .i64 x]))=ifR (decide (b≤4096)) (some ⟨sl 1 qm v,true,none,h⟩):=qek (by omega) rfl hn hv
attribute [go_sem] Nat.le_refl
end
@[go_sem] theorem j0p {h:qk} {a b c d:Int}:jae [.int,.int] true h (some (.agg [.int .i64 a,.int .i64 b])) (some (.agg [.int .i64 c,.int .i64 d]))=some ⟨.bool (!(decide (a=c) && decide (b=d))),false,none,h⟩:=by
 show (match yn [.int,.int] [.int .i64 a,.int .i64 b] [.int .i64 c,.int .i64 d] with | some t=>val h (.bool (bif true then !t else t)) | none=>none)=_
 have:yn [.int,.int] [.int .i64 a,.int .i64 b] [.int .i64 c,.int .i64 d]=some (decide (a=c) && decide (b=d)):=by
  have e:∀ x y:Int,(x == y)=decide (x=y):=fun x y=>by by_cases h:x=y <;> simp [h]
  simp only [yn,qak,e,decide_true,cond_true]
  by_cases h1:a=c <;> by_cases h2:b=d <;> simp [h1,h2]
 rw [this]
 rfl
variable {h:qk}
theorem q39 {b:Nat} {bb:Bool} {x:List UInt8} {o v:Option (List (List UInt8))} (hv:apO o [x]=some v) (hn:o.isNone=true):appR 1 b h none (some (sl 1 qbz o)) (some (.list bb 1 [.str x]))=ifR (decide (b≤4096)) (some ⟨sl 1 qbz v,true,none,h⟩):=qek (by omega) rfl hn hv
theorem jp {b pos:Nat} {s:List UInt8} (hp:decide (pos < s.length)=true):qh3 h b (some (.iter s pos))=qaa (jw h b (.iter s (pos + (qp s pos).2))) (.tup [.bool true,.int .i64 pos,.int .i32 (qp s pos).1]):=jai (of_decide_eq_true hp)
theorem q6p {b pos:Nat} {s:List UInt8} (hp:decide (pos < s.length)=false):qh3 h b (some (.iter s pos))=some ⟨.tup [.bool false],false,none,h⟩:=q73 (of_decide_eq_false hp)
end Go.Z
