/- Functions in Option that mirror the machine's runs. -/
import Derived.Test.YtnjngdcbkkonnaaGreatDoorL1
set_option linter.unusedVariables false
set_option linter.unusedSimpArgs false
set_option maxRecDepth 100000
namespace Go.Z
open Go Go.Abs
def qi {α β:Type} (x:Option α) (f:α→Option β):Option β:=match x with
 | some a=>f a
 | none=>none
@[simp] theorem ql {α β:Type} {a:α} {f:α→Option β}:qi (some a) f=f a:=rfl
@[simp] theorem jkv {α β:Type} {f:α→Option β}:qi none f=none:=rfl
theorem qb {α β:Type} {x:Option α} {f:α→Option β} {r:β} (h:qi x f=some r):∃ a,x=some a∧f a=some r:=by
 cases x with
 | none=>cases h
 | some a=>exact ⟨a,rfl,h⟩
theorem qa {α:Type} {c:Bool} {a b r:α} (h:cond c a b=r):(c=true∧a=r)∨(c=false∧b=r):=by
 cases c
 ·exact .inr ⟨rfl,h⟩
 ·exact .inl ⟨rfl,h⟩
def itF {σ δ:Type} (f:σ→Option (σ ⊕ δ)):Nat→σ→Option δ
 | 0,_=>none
 | n + 1,s=>match f s with
  | none=>none
  | some (.inl s')=>itF f n s'
  | some (.inr d)=>some d
theorem qss {σ δ:Type} {f:σ→Option (σ ⊕ δ)} {d:δ}:∀ {n:Nat} {s:σ},itF f n s=some d→itF f (n + 1) s=some d
 | 0,_,h=>by cases h
 | n + 1,s,h=>by
  rw [itF] at h ⊢
  cases hf:f s with
  | none=>rw [hf] at h; cases h
  | some x=>
   rw [hf] at h
   cases x with
   | inl s'=>exact qss h
   | inr d'=>exact h
theorem qz1 {σ δ:Type} {f:σ→Option (σ ⊕ δ)} {d:δ} {n m:Nat} {s:σ} (hm:n≤m) (h:itF f n s=some d):itF f m s=some d:=by
 induction hm with
 | refl=>exact h
 | step _ ih=>exact qss ih
open Classical in
noncomputable def itO {σ δ:Type} (f:σ→Option (σ ⊕ δ)) (s:σ):Option δ:=
 if h:∃ d n,itF f n s=some d then some (Classical.choose h) else none
theorem qlj {σ δ:Type} {f:σ→Option (σ ⊕ δ)} {s:σ} {d:δ}:itO f s=some d↔∃ n,itF f n s=some d:=by
 unfold itO
 constructor
 ·intro h
  split at h
  ·rename_i hh; cases h; exact Classical.choose_spec hh
  ·cases h
 ·rintro ⟨n,hn⟩
  have hh:∃ d n,itF f n s=some d:=⟨d,n,hn⟩
  rw [dif_pos hh]
  obtain ⟨m,hm⟩:=Classical.choose_spec hh
  have h1:=qz1 (Nat.le_max_left n m) hn
  have h2:=qz1 (Nat.le_max_right n m) hm
  rw [h1] at h2
  exact h2.symm
theorem qed {σ δ:Type} {f:σ→Option (σ ⊕ δ)} {s s':σ} (h:f s=some (.inl s')):itO f s=itO f s':=by
 apply Option.ext
 intro d
 rw [qlj,qlj]
 constructor
 ·rintro ⟨n,hn⟩
  cases n with
  | zero=>cases hn
  | succ n=>rw [itF,h] at hn; exact ⟨n,hn⟩
 ·rintro ⟨n,hn⟩
  exact ⟨n + 1,by rw [itF,h]; exact hn⟩
theorem qat {σ δ:Type} {f:σ→Option (σ ⊕ δ)} {s:σ} {d:δ} (h:f s=some (.inr d)):itO f s=some d:=
 qlj.2 ⟨1,by rw [itF,h]⟩
def z6 {σ δ:Type} (p:jk) (c:ACode) (St:σ→ASt) (Ex:δ→jg × ASt) (s:σ) (r:σ ⊕ δ):Prop:=match r with
 | .inl s'=>∃ st',X p c (St s)=some (.normal,st')∧gc (St s).heap.length st'=St s'
 | .inr d=>X p c (St s)=some (Ex d)
theorem qr {σ δ:Type} {p:jk} {c:ACode} {St:σ→ASt} {Ex:δ→jg × ASt} {s s':σ} {st':ASt} (hx:X p c (St s)=some (.normal,st')) (hc:gc (St s).heap.length st'=St s'):z6 p c St Ex s (.inl s'):=⟨st',hx,hc⟩
theorem qm {σ δ:Type} {p:jk} {c:ACode} {St:σ→ASt} {Ex:δ→jg × ASt} {s:σ} {d:δ} (hx:X p c (St s)=some (Ex d)):z6 p c St Ex s (.inr d):=hx
theorem q2v {σ δ:Type} {p:jk} {c:ACode} {St:σ→ASt} {Ex:δ→jg × ASt} {f:σ→Option (σ ⊕ δ)} (hb:∀ s r,f s=some r→z6 p c St Ex s r) (hX:∀ d,(Ex d).1 ≠ .normal) {d:δ}:
  ∀ {n:Nat} {s:σ},itF f n s=some d→X p (.loop c) (St s)=some (Ex d)
 | 0,_,h=>by cases h
 | n + 1,s,h=>by
  rw [itF] at h
  rw [qvs]
  cases hf:f s with
  | none=>rw [hf] at h; cases h
  | some x=>
   rw [hf] at h
   have hs:=hb s x hf
   cases x with
   | inl s'=>
    obtain ⟨st',h1,h2⟩:=hs
    rw [h1,qth,h2]
    exact q2v hb hX h
   | inr d'=>
    cases h
    rw [show X p c (St s)=some (Ex d) from hs,qyx (hX d)]
theorem yp {σ δ:Type} {p:jk} {c:ACode} {St:σ→ASt} {Ex:δ→jg × ASt} {f:σ→Option (σ ⊕ δ)} (hb:∀ s r,f s=some r→z6 p c St Ex s r) (hX:∀ d,(Ex d).1 ≠ .normal) {s:σ} {d:δ} (h:itO f s=some d):X p (.loop c) (St s)=some (Ex d):=by
 obtain ⟨n,hn⟩:=qlj.1 h
 exact q2v hb hX hn
section
variable {h0:Nat} {al:Option (List Nat)} {h:qh} {α:Type}
def zz (l:List α) (i:Int):Option α:=if 0≤i then l[i.toNat]? else none
theorem qja {l:List α} {i:Nat}:zz l (i:Int)=l[i]?:=by simp [zz]
theorem jj {z:Nat} {f:α→AVal} {l:Option (List α)} {k:IntKind} {i:Int} {x:α} (hx:zz (l.getD []) i=some x):qmt z h (some (sl z f l)) (some (.int k i))=some ⟨.vptr (f x),false,none,h⟩:=by
 unfold zz at hx
 by_cases hi:0≤i
 ·rw [if_pos hi] at hx
  obtain ⟨n,rfl⟩:∃ n:Nat,i=(n:Int):=⟨i.toNat,by omega⟩
  exact q67 (by simpa using hx)
 ·rw [if_neg hi] at hx; cases hx
theorem jl {s:List UInt8} {k:IntKind} {i:Int} {c:UInt8} (hx:zz s i=some c):qif h (some (.str s)) (some (.int k i))=some ⟨.int .u8 (c.toNat:Int),false,none,h⟩:=by
 unfold zz at hx
 by_cases hi:0≤i
 ·rw [if_pos hi] at hx
  obtain ⟨n,rfl⟩:∃ n:Nat,i=(n:Int):=⟨i.toNat,by omega⟩
  exact qza (by simpa using hx)
 ·rw [if_neg hi] at hx; cases hx
end
section
variable {h:qh}
@[go_sem] theorem q76 {agg:Bool} {len sz b o n:Nat} {k:IntKind}:qb5 agg len sz h (some (.ptr b o)) (some (.int k (no_index (OfNat.ofNat n:Int))))=ifR (decide ((OfNat.ofNat n:Nat) < len)) (some ⟨.ptr b (o + (OfNat.ofNat n:Nat) * sz),false,none,h⟩):=by
 have e:(OfNat.ofNat n:Int)=(n:Int):=rfl
 have e':(OfNat.ofNat n:Nat)=n:=rfl
 rw [e,e']
 by_cases hn:n < len
 ·simp [qb5,qdv,qmq hn,hn,ifR,val]
 ·have hi:qho len (n:Int)=none:=by unfold qho; rw [if_neg (by omega)]
  simp [qb5,qdv,hi,hn,ifR]
@[go_sem] theorem q49 {agg:Bool} {len sz n:Nat} {k:IntKind} {cs:List AVal}:qb5 agg len sz h (some (.vptr (.agg cs))) (some (.int k (no_index (OfNat.ofNat n:Int))))=ifR (decide ((OfNat.ofNat n:Nat) < len)) (qde agg h (Go.Abs.part agg cs ((OfNat.ofNat n:Nat) * sz) sz)):=by
 have e:(OfNat.ofNat n:Int)=(n:Int):=rfl
 have e':(OfNat.ofNat n:Nat)=n:=rfl
 rw [e,e']
 by_cases hn:n < len
 ·simp [qb5,qdv,qmq hn,hn,ifR,qde]; rfl
 ·have hi:qho len (n:Int)=none:=by unfold qho; rw [if_neg (by omega)]
  simp [qb5,qdv,hi,hn,ifR]
end
def qtm (a b:List UInt8):Option (List UInt8):=if a.length + b.length≤4611686018427387904 then some (a++b) else none
theorem q3y {a b v:List UInt8} (h:qtm a b=some v):zg .add (.str a) (.str b)=some (.str v):=by
 unfold qtm at h
 by_cases hl:a.length + b.length≤4611686018427387904
 ·rw [if_pos hl] at h; cases h
  simp only [zg,qhs,k9,hl,decide_true,cond_true]
 ·rw [if_neg hl] at h; cases h
section
variable {p:jk} {xc:XC} {h0:Nat} {al:Option (List Nat)} {e:Env} {h:qh}
def qxm (k:IntKind) (h:qh) (x:Option AVal):Option ORes:=match x with
 | some (.int _ n)=>val h (.int k (qk k n))
 | _=>none
@[go_sem] theorem jfn {k k':IntKind} {n:Int}:qxm k h (some (.int k' n))=some ⟨.int k (qk k n),false,none,h⟩:=rfl
@[go_sem] theorem jlt {k:IntKind} {x:qp}:qc p xc h0 al e h (.conv k x)=qxm k h (qf e x):=by
 simp only [qc,qo,qxm]
 cases qf e x with
 | none=>rfl
 | some v=>cases v <;> rfl
def qtf (h:qh) (x:Option AVal):Option ORes:=match x with
 | some (.str s)=>val h (.str s)
 | some (.int _ n)=>val h (.str (Utf8.encode n).data.toList)
 | _=>none
@[go_sem] theorem q5m {k:IntKind} {n:Int}:qtf h (some (.int k n))=some ⟨.str (Utf8.encode n).data.toList,false,none,h⟩:=rfl
@[go_sem] theorem q6c {s:List UInt8}:qtf h (some (.str s))=some ⟨.str s,false,none,h⟩:=rfl
def qen (h:qh) (x:Option AVal):Option ORes:=match x with
 | some (.ptr b o)=>val h (.ptr b o)
 | some (.vptr v)=>val h (.vptr v)
 | some (.fn (.func f) a b)=>val h (.fn (.func f) a b)
 | _=>none
@[go_sem] theorem q6g {b o:Nat}:qen h (some (.ptr b o))=some ⟨.ptr b o,false,none,h⟩:=rfl
@[go_sem] theorem q5c {v:AVal}:qen h (some (.vptr v))=some ⟨.vptr v,false,none,h⟩:=rfl
@[go_sem] theorem q8x {f:Nat} {a b:List AVal}:qen h (some (.fn (.func f) a b))=some ⟨.fn (.func f) a b,false,none,h⟩:=rfl
@[go_sem] theorem jce {x:qp}:qc p xc h0 al e h (.nilCheck x)=qen h (qf e x):=by
 simp only [qc,qo,qen]; rfl
def q6p (agg:Bool) (off n:Nat) (h:qh) (x:Option AVal):Option ORes:=match x with
 | some (.agg cs)=>kq h (Go.Abs.part agg cs off n)
 | _=>none
@[go_sem] theorem jbl {agg:Bool} {off n:Nat} {cs:List AVal}:q6p agg off n h (some (.agg cs))=kq h (Go.Abs.part agg cs off n):=rfl
def jl6 (agg:Bool) (len n:Nat) (h:qh) (x i:Option AVal):Option ORes:=match x,i with
 | some (.agg cs),some j=>(match idx len j with
  | some j=>kq h (Go.Abs.part agg cs (j * n) n)
  | none=>none)
 | _,_=>none
end
section
variable {p:jk} {xc:XC} {h0:Nat} {al:Option (List Nat)} {e:Env} {h:qh} {α:Type}
def qbj (n dflt:Nat):Option Int→Option Nat
 | none=>some dflt
 | some i=>if 0≤i∧i≤n then some i.toNat else none
def kx (s:List α) (lo hi:Option Int):Option (List α):=match qbj s.length s.length hi with
 | some j=>(match qbj j 0 lo with
  | some i=>some ((s.take j).drop i)
  | none=>none)
 | none=>none
def qby (o:Option (List α)) (lo hi:Option Int):Option (Option (List α)):=match kx (o.getD []) lo hi with
 | some l=>some (o.map fun _=>l)
 | none=>none
def qjr (dflt n:Nat):Option (Option AVal)→Option Nat
 | none=>some dflt
 | some (some v)=>qll n v
 | some none=>none
theorem q2u {dflt n:Nat} {x:Option qp}:bnd e dflt n x=qjr dflt n (x.map (qf e)):=by
 cases x with
 | none=>rfl
 | some x=>simp only [bnd,Option.map_some,qjr]; cases qf e x <;> rfl
theorem q4w {n d:Nat} {k:IntKind} {i:Int}:qll n (.int k i)=qbj n d (some i):=by
 unfold qll qbj
 cases i with
 | ofNat m=>
  simp only []
  by_cases hm:m≤n
  ·rw [if_pos ⟨by simp,by simpa using hm⟩,Nat.ble_eq_true_of_le hm]; rfl
  ·rw [if_neg (by simp; omega)]
   cases hb:Nat.ble m n with
   | true=>exact absurd (Nat.le_of_ble_eq_true hb) hm
   | false=>rfl
 | negSucc m=>simp
def qs0 (k:IntKind):Option Int→Option (Option AVal)
 | none=>none
 | some i=>some (some (.int k i))
theorem qts {d n:Nat} {k:IntKind} {x:Option Int}:qjr d n (qs0 k x)=qbj n d x:=by
 cases x with
 | none=>rfl
 | some i=>exact q4w
def qms (sz:Nat) (h:qh) (x:Option AVal) (lo hi:Option (Option AVal)):Option ORes:=match x with
 | some (.list n sz' xs)=>bif Nat.beq sz sz' || xs.isEmpty then (match qjr xs.length xs.length hi with
  | some j=>(match qjr 0 j lo with
   | some i=>val h (.list n sz' ((xs.take j).drop i))
   | none=>none)
  | none=>none) else none
 | some (.ms b o len)=>(match qjr len len hi with
  | some j=>(match qjr 0 j lo with
   | some i=>bif Nat.beq i 0 || Nat.blt i j then val h (.ms b (o + i * sz) (j - i)) else none
   | none=>none)
  | none=>none)
 | _=>none
attribute [go_sem] Option.map_some Option.map_none
@[go_sem] theorem jlf {sz:Nat} {x:qp} {lo hi:Option qp}:qc p xc h0 al e h (.slice sz x lo hi)=qms sz h (qf e x) (lo.map (qf e)) (hi.map (qf e)):=by
 simp only [qc,qo,qms,q2u]
 cases qf e x with
 | none=>rfl
 | some v=>cases v <;> rfl
theorem q2q {z:Nat} {k k':IntKind} {f:α→AVal} {o v:Option (List α)} {lo hi:Option Int} (hv:qby o lo hi=some v):qms z h (some (sl z f o)) (qs0 k lo) (qs0 k' hi)=some ⟨sl z f v,false,none,h⟩:=by
 unfold qby kx at hv
 cases o with
 | none=>
  simp only [sl,qms,List.isEmpty_nil,Bool.or_true,cond_true,qts]
  simp only [Option.getD_none] at hv
  cases h1:qbj ([]:List α).length ([]:List α).length hi with
  | none=>rw [h1] at hv; cases hv
  | some j=>
   rw [h1] at hv
   simp only [] at hv
   cases h2:qbj j 0 lo with
   | none=>rw [h2] at hv; cases hv
   | some i=>
    rw [h2] at hv
    cases hv
    simp only [List.length_nil] at h1
    simp only [List.length_nil,h1,h2,List.take_nil,List.drop_nil]
    rfl
 | some l=>
  simp only [sl,qms,qlo,decide_true,Bool.true_or,cond_true,qts,List.length_map]
  simp only [Option.getD_some] at hv
  cases h1:qbj l.length l.length hi with
  | none=>rw [h1] at hv; cases hv
  | some j=>
   rw [h1] at hv
   simp only [] at hv
   cases h2:qbj j 0 lo with
   | none=>rw [h2] at hv; cases hv
   | some i=>
    rw [h2] at hv
    cases hv
    simp only [h2,val,Option.map_some,List.map_drop,List.map_take]
theorem qrg {z:Nat} {k k':IntKind} {f:α→AVal} {o v:Option (List α)} {lo hi:Int} (hv:qby o (some lo) (some hi)=some v):qms z h (some (sl z f o)) (some (some (.int k lo))) (some (some (.int k' hi)))=some ⟨sl z f v,false,none,h⟩:=q2q hv
theorem qom {z:Nat} {k:IntKind} {f:α→AVal} {o v:Option (List α)} {lo:Int} (hv:qby o (some lo) none=some v):qms z h (some (sl z f o)) (some (some (.int k lo))) none=some ⟨sl z f v,false,none,h⟩:=q2q (k':=k) hv
def qi5 (h:qh) (x:Option AVal) (lo hi:Option (Option AVal)):Option ORes:=match x with
 | some (.str s)=>(match qjr s.length s.length hi with
  | some j=>(match qjr 0 j lo with
   | some i=>val h (.str ((s.take j).drop i))
   | none=>none)
  | none=>none)
 | _=>none
@[go_sem] theorem q96 {x:qp} {lo hi:Option qp}:qc p xc h0 al e h (.strSlice x lo hi)=qi5 h (qf e x) (lo.map (qf e)) (hi.map (qf e)):=by
 simp only [qc,qo,qi5,q2u]
 cases qf e x with
 | none=>rfl
 | some v=>cases v <;> rfl
theorem qse {k k':IntKind} {s v:List UInt8} {lo hi:Option Int} (hv:kx s lo hi=some v):qi5 h (some (.str s)) (qs0 k lo) (qs0 k' hi)=some ⟨.str v,false,none,h⟩:=by
 unfold kx at hv
 simp only [qi5,qts]
 cases h1:qbj s.length s.length hi with
 | none=>rw [h1] at hv; cases hv
 | some j=>
  rw [h1] at hv
  simp only [] at hv
  cases h2:qbj j 0 lo with
  | none=>rw [h2] at hv; cases hv
  | some i=>rw [h2] at hv; cases hv; simp only [h2,val]
theorem qp5 {k k':IntKind} {s v:List UInt8} {lo hi:Int} (hv:kx s (some lo) (some hi)=some v):qi5 h (some (.str s)) (some (some (.int k lo))) (some (some (.int k' hi)))=some ⟨.str v,false,none,h⟩:=qse hv
theorem qi8 {k:IntKind} {s v:List UInt8} {lo:Int} (hv:kx s (some lo) none=some v):qi5 h (some (.str s)) (some (some (.int k lo))) none=some ⟨.str v,false,none,h⟩:=qse (k':=k) hv
theorem qdx {k:IntKind} {s v:List UInt8} {hi:Int} (hv:kx s none (some hi)=some v):qi5 h (some (.str s)) none (some (some (.int k hi)))=some ⟨.str v,false,none,h⟩:=qse (k:=k) hv
end
section
variable {h:qh} {α:Type}
def apS (o:Option (List α)) (ys:List α):Option (List α):=match o,ys with
 | none,[]=>none
 | o,ys=>some (o.getD []++ys)
def apO (o:Option (List α)) (ys:List α):Option (Option (List α)):=if (o.getD []).length + ys.length≤1073741824 then some (apS o ys) else none
theorem qos {z b:Nat} {own:Option Nat} {f:α→AVal} {o:Option (List α)} {ys:List α} {v:Option (List α)} {y:AVal} (hz:0 < z) (hb:b≤4096) (hy:z8 z y=some (ys.map f)) (hv:apO o ys=some v)
  (ho:o=none∨own.isSome=true):appR z b h own (some (sl z f o)) (some y)=some ⟨sl z f v,true,own,h⟩:=by
 unfold apO at hv
 by_cases hl:(o.getD []).length + ys.length≤1073741824
 ·rw [if_pos hl] at hv; cases hv
  cases o with
  | none=>
   simp only [sl,appR,appR.appS,hy,ifR,Bool.true_or,List.isEmpty_nil,Bool.and_true,Bool.or_true,List.length_nil,List.length_map,k9,qbu,hz,hb,decide_true]
   simp only [Option.getD_none,List.length_nil] at hl
   simp only [hl,decide_true,Bool.and_self,Bool.or_true]
   cases ys with
   | nil=>rfl
   | cons y ys=>simp [qdl,apS,sl]
  | some l=>
   have ho':own.isSome=true:=by rcases ho with h | h; cases h; exact h
   simp only [sl,appR,appR.appS,hy,ifR,ho',Bool.or_true,qlo,k9,qbu,hz,hb,decide_true,Bool.true_or,List.length_map]
   simp only [Option.getD_some] at hl
   simp only [hl,decide_true,Bool.and_self]
   simp [qdl,apS,sl]
 ·rw [if_neg hl] at hv; cases hv
theorem q12 {z b t:Nat} {f:α→AVal} {o o2 v:Option (List α)} (hv:apO o (o2.getD [])=some v):appR (z + 1) b h (some t) (some (sl (z + 1) f o)) (some (sl (z + 1) f o2))=ifR (decide (b≤4096)) (some ⟨sl (z + 1) f v,true,some t,h⟩):=by
 by_cases hb:b≤4096
 ·rw [qos (by omega) hb q57 hv (.inr rfl)]; simp [ifR,hb]
 ·have hb':decide (b≤4096)=false:=by simp [hb]
  rw [hb']
  cases o with
  | none=>simp [sl,appR,appR.appS,ifR,hb,k9]; split <;> rfl
  | some l=>simp [sl,appR,appR.appS,ifR,hb,k9]; split <;> rfl
theorem qn0 {z b t:Nat} {f:α→AVal} {x:α} {y:AVal} {o v:Option (List α)} (hz:0 < z) (hy:z8 z y=some [f x]) (hv:apO o [x]=some v):appR z b h (some t) (some (sl z f o)) (some y)=ifR (decide (b≤4096)) (some ⟨sl z f v,true,some t,h⟩):=by
 by_cases hb:b≤4096
 ·rw [qos hz hb hy hv (.inr rfl)]; simp [ifR,hb]
 ·have hb':decide (b≤4096)=false:=by simp [hb]
  rw [hb']
  cases o with
  | none=>simp [sl,appR,appR.appS,ifR,hb,hy,k9]
  | some l=>simp [sl,appR,appR.appS,ifR,hb,hy,k9]
end
def zi (s:List UInt8):AVal:=.str s
@[go_sem] theorem jdc {h0:Nat} {al:Option (List Nat)} {h:qh} {b:List UInt8}:qao h0 al false 1 h (some (.vptr (zi b)))=some ⟨.str b,false,none,h⟩:=rfl
@[go_sem] theorem jax {n z:Nat} {l:Option (List (List UInt8))}:below n (sl z zi l)=true:=qit fun _=>rfl
theorem qm9 {b t:Nat} {h:qh} {bb:Bool} {x:Int} {o v:Option (List Int)} (hv:apO o [x]=some v):appR 1 b h (some t) (some (sl 1 jr o)) (some (.list bb 1 [.int .i64 x]))=ifR (decide (b≤4096)) (some ⟨sl 1 jr v,true,some t,h⟩):=qn0 (by omega) rfl hv
theorem qi3 {b t:Nat} {h:qh} {bb:Bool} {x:List UInt8} {o v:Option (List (List UInt8))} (hv:apO o [x]=some v):appR 1 b h (some t) (some (sl 1 zi o)) (some (.list bb 1 [.str x]))=ifR (decide (b≤4096)) (some ⟨sl 1 zi v,true,some t,h⟩):=qn0 (by omega) rfl hv
theorem zr {p:jk} {xc:XC} {k:Nat} {args:List AVal} {v v':AVal} {o:Bool} {h:qh} (hp:p.prims k=none) (hc:jc p xc k args []=some (v,o,h)) (hz:freezeR h v=some v') (hv:below 0 v'=true) (hl:v.isList=true):qd p xc k args=some (v',o):=by
 rw [jt hp hc hz hv,hl,Bool.and_true]
structure qkg where
 num:Int
 den:Int
open Classical in
noncomputable def exO {α:Type} (P:Prop) (v:α):Option α:=if P then some v else none
theorem qiu {α:Type} {P:Prop} {v r:α} (h:exO P v=some r):P∧v=r:=by
 unfold exO at h
 split at h
 ·rename_i hp; cases h; exact ⟨hp,rfl⟩
 ·cases h
theorem qhy {α:Type} {P:Prop} {v:α} (h:P):exO P v=some v:=by unfold exO; rw [if_pos h]
section
variable {p:jk} {xc:XC} {h0:Nat} {al:Option (List Nat)} {e:Env} {h:qh} {α:Type}
def q74 (own:Option Nat) (v:AVal) (r:Option qh):Option ORes:=match r with
 | some h'=>some ⟨v,false,own,h'⟩
 | none=>none
@[go_sem] theorem q8y {own:Option Nat} {v:AVal}:q74 own v (some h)=some ⟨v,false,own,h⟩:=rfl
theorem qjl {z b:Nat} {f:α→AVal} {x:α} {y:AVal} {o v:Option (List α)} (hz:0 < z) (hy:z8 z y=some [f x]) (hn:o.isNone=true) (hv:apO o [x]=some v):appR z b h none (some (sl z f o)) (some y)=ifR (decide (b≤4096)) (some ⟨sl z f v,true,none,h⟩):=by
 cases o with
 | some l=>cases hn
 | none=>
  by_cases hb:b≤4096
  ·rw [qos hz hb hy hv (.inl rfl)]; simp [ifR,hb]
  ·have hb':decide (b≤4096)=false:=by simp [hb]
   rw [hb']
   simp [sl,appR,appR.appS,ifR,hb,hy,k9]
theorem qm6 {b:Nat} {bb:Bool} {x:Int} {o v:Option (List Int)} (hv:apO o [x]=some v) (hn:o.isNone=true):appR 1 b h none (some (sl 1 jr o)) (some (.list bb 1 [.int .i64 x]))=ifR (decide (b≤4096)) (some ⟨sl 1 jr v,true,none,h⟩):=qjl (by omega) rfl hn hv
attribute [go_sem] Nat.le_refl
end
theorem qfz {i:Nat} (h:i < 9223372036854775807):qk .i64 ((i:Int) + 1)=((i + 1:Nat):Int):=by
 rw [qg6 (by omega) (by omega)]; rfl
variable {h:qh}
theorem qjq {b:Nat} {bb:Bool} {x:List UInt8} {o v:Option (List (List UInt8))} (hv:apO o [x]=some v) (hn:o.isNone=true):appR 1 b h none (some (sl 1 zi o)) (some (.list bb 1 [.str x]))=ifR (decide (b≤4096)) (some ⟨sl 1 zi v,true,none,h⟩):=qjl (by omega) rfl hn hv
theorem ji {b pos:Nat} {s:List UInt8} (hp:decide (pos < s.length)=true):qfd h b (some (.iter s pos))=kf (jo h b (.iter s (pos + (qe s pos).2))) (.tup [.bool true,.int .i64 pos,.int .i32 (qe s pos).1]):=q1h (of_decide_eq_true hp)
theorem qrp {b pos:Nat} {s:List UInt8} (hp:decide (pos < s.length)=false):qfd h b (some (.iter s pos))=some ⟨.tup [.bool false],false,none,h⟩:=qye (of_decide_eq_false hp)
end Go.Z
