/-
  Functions in Option that mirror the machine's runs: the pieces.
-/
import Derived.Test.YtnjngdcbkkonnaaGreatDoorL1
set_option linter.unusedVariables false
set_option linter.unusedSimpArgs false
set_option maxRecDepth 100000
namespace Go.Z
open Go Go.Abs
def qh {α β:Type} (x:Option α) (f:α→Option β):Option β:=match x with
 | some a=>f a
 | none=>none
@[simp] theorem qj {α β:Type} {a:α} {f:α→Option β}:qh (some a) f=f a:=rfl
@[simp] theorem jk3 {α β:Type} {f:α→Option β}:qh none f=none:=rfl
theorem qb {α β:Type} {x:Option α} {f:α→Option β} {r:β} (h:qh x f=some r):∃ a,x=some a∧f a=some r:=by
 cases x with
 | none=>cases h
 | some a=>exact ⟨a,rfl,h⟩
theorem qa {α:Type} {c:Bool} {a b r:α} (h:cond c a b=r):(c=true∧a=r)∨(c=false∧b=r):=by
 cases c
 ·exact .inr ⟨rfl,h⟩
 ·exact .inl ⟨rfl,h⟩
def itF {σ δ:Type} (f:σ→Option (σ ⊕ δ)):Nat→σ→Option δ
 | 0,_=>none
 | n + 1,s=>match f s with
  | none=>none
  | some (.inl s')=>itF f n s'
  | some (.inr d)=>some d
theorem qtm {σ δ:Type} {f:σ→Option (σ ⊕ δ)} {d:δ}:∀ {n:Nat} {s:σ},itF f n s=some d→itF f (n + 1) s=some d
 | 0,_,h=>by cases h
 | n + 1,s,h=>by
  rw [itF] at h ⊢
  cases hf:f s with
  | none=>rw [hf] at h; cases h
  | some x=>
   rw [hf] at h
   cases x with
   | inl s'=>exact qtm h
   | inr d'=>exact h
theorem qz7 {σ δ:Type} {f:σ→Option (σ ⊕ δ)} {d:δ} {n m:Nat} {s:σ} (hm:n≤m) (h:itF f n s=some d):itF f m s=some d:=by
 induction hm with
 | refl=>exact h
 | step _ ih=>exact qtm ih
open Classical in
noncomputable def itO {σ δ:Type} (f:σ→Option (σ ⊕ δ)) (s:σ):Option δ:=
 if h:∃ d n,itF f n s=some d then some (Classical.choose h) else none
theorem qm0 {σ δ:Type} {f:σ→Option (σ ⊕ δ)} {s:σ} {d:δ}:itO f s=some d↔∃ n,itF f n s=some d:=by
 unfold itO
 constructor
 ·intro h
  split at h
  ·rename_i hh; cases h; exact Classical.choose_spec hh
  ·cases h
 ·rintro ⟨n,hn⟩
  have hh:∃ d n,itF f n s=some d:=⟨d,n,hn⟩
  rw [dif_pos hh]
  obtain ⟨m,hm⟩:=Classical.choose_spec hh
  have h1:=qz7 (Nat.le_max_left n m) hn
  have h2:=qz7 (Nat.le_max_right n m) hm
  rw [h1] at h2
  exact h2.symm
theorem qgd {σ δ:Type} {f:σ→Option (σ ⊕ δ)} {s s':σ} (h:f s=some (.inl s')):itO f s=itO f s':=by
 apply Option.ext
 intro d
 rw [qm0,qm0]
 constructor
 ·rintro ⟨n,hn⟩
  cases n with
  | zero=>cases hn
  | succ n=>rw [itF,h] at hn; exact ⟨n,hn⟩
 ·rintro ⟨n,hn⟩
  exact ⟨n + 1,by rw [itF,h]; exact hn⟩
theorem qb8 {σ δ:Type} {f:σ→Option (σ ⊕ δ)} {s:σ} {d:δ} (h:f s=some (.inr d)):itO f s=some d:=
 qm0.2 ⟨1,by rw [itF,h]⟩
def j9 {σ δ:Type} (p:jj) (c:ACode) (St:σ→ASt) (Ex:δ→je × ASt) (s:σ) (r:σ ⊕ δ):Prop:=match r with
 | .inl s'=>∃ st',X p c (St s)=some (.normal,st')∧gc (St s).heap.length st'=St s'
 | .inr d=>X p c (St s)=some (Ex d)
theorem qq {σ δ:Type} {p:jj} {c:ACode} {St:σ→ASt} {Ex:δ→je × ASt} {s s':σ} {st':ASt} (hx:X p c (St s)=some (.normal,st')) (hc:gc (St s).heap.length st'=St s'):j9 p c St Ex s (.inl s'):=⟨st',hx,hc⟩
theorem ql {σ δ:Type} {p:jj} {c:ACode} {St:σ→ASt} {Ex:δ→je × ASt} {s:σ} {d:δ} (hx:X p c (St s)=some (Ex d)):j9 p c St Ex s (.inr d):=hx
theorem q3j {σ δ:Type} {p:jj} {c:ACode} {St:σ→ASt} {Ex:δ→je × ASt} {f:σ→Option (σ ⊕ δ)} (hb:∀ s r,f s=some r→j9 p c St Ex s r) (hX:∀ d,(Ex d).1 ≠ .normal) {d:δ}:
  ∀ {n:Nat} {s:σ},itF f n s=some d→X p (.loop c) (St s)=some (Ex d)
 | 0,_,h=>by cases h
 | n + 1,s,h=>by
  rw [itF] at h
  rw [q4j]
  cases hf:f s with
  | none=>rw [hf] at h; cases h
  | some x=>
   rw [hf] at h
   have hs:=hb s x hf
   cases x with
   | inl s'=>
    obtain ⟨st',h1,h2⟩:=hs
    rw [h1,qsn,h2]
    exact q3j hb hX h
   | inr d'=>
    cases h
    rw [show X p c (St s)=some (Ex d) from hs,q0c (hX d)]
theorem zi {σ δ:Type} {p:jj} {c:ACode} {St:σ→ASt} {Ex:δ→je × ASt} {f:σ→Option (σ ⊕ δ)} (hb:∀ s r,f s=some r→j9 p c St Ex s r) (hX:∀ d,(Ex d).1 ≠ .normal) {s:σ} {d:δ} (h:itO f s=some d):X p (.loop c) (St s)=some (Ex d):=by
 obtain ⟨n,hn⟩:=qm0.1 h
 exact q3j hb hX hn
section
variable {h0:Nat} {al:Option (List Nat)} {h:qn} {α:Type}
def zm (l:List α) (i:Int):Option α:=if 0≤i then l[i.toNat]? else none
theorem q14 {l:List α} {i:Nat}:zm l (i:Int)=l[i]?:=by simp [zm]
theorem jb {z:Nat} {f:α→AVal} {l:Option (List α)} {k:IntKind} {i:Int} {x:α} (hx:zm (l.getD []) i=some x):qj4 z h (some (sl z f l)) (some (.int k i))=some ⟨.vptr (f x),false,none,h⟩:=by
 unfold zm at hx
 by_cases hi:0≤i
 ·rw [if_pos hi] at hx
  obtain ⟨n,rfl⟩:∃ n:Nat,i=(n:Int):=⟨i.toNat,by omega⟩
  exact q6j (by simpa using hx)
 ·rw [if_neg hi] at hx; cases hx
theorem jp {s:List UInt8} {k:IntKind} {i:Int} {c:UInt8} (hx:zm s i=some c):qit h (some (.str s)) (some (.int k i))=some ⟨.int .u8 (c.toNat:Int),false,none,h⟩:=by
 unfold zm at hx
 by_cases hi:0≤i
 ·rw [if_pos hi] at hx
  obtain ⟨n,rfl⟩:∃ n:Nat,i=(n:Int):=⟨i.toNat,by omega⟩
  exact qyr (by simpa using hx)
 ·rw [if_neg hi] at hx; cases hx
end
section
variable {h:qn}
@[go_sem] theorem q5y {agg:Bool} {len sz n:Nat} {k:IntKind} {cs:List AVal}:qg4 agg len sz h (some (.vptr (.agg cs))) (some (.int k (no_index (OfNat.ofNat n:Int))))=ifR (decide ((OfNat.ofNat n:Nat) < len)) (qc5 agg h (Go.Abs.part agg cs ((OfNat.ofNat n:Nat) * sz) sz)):=by
 have e:(OfNat.ofNat n:Int)=(n:Int):=rfl
 have e':(OfNat.ofNat n:Nat)=n:=rfl
 rw [e,e']
 by_cases hn:n < len
 ·simp [qg4,qfy,qs5 hn,hn,ifR,qc5]; rfl
 ·have hi:qlp len (n:Int)=none:=by unfold qlp; rw [if_neg (by omega)]
  simp [qg4,qfy,hi,hn,ifR]
end
def q1h (a b:List UInt8):Option (List UInt8):=if a.length + b.length≤4611686018427387904 then some (a++b) else none
theorem q5g {a b v:List UInt8} (h:q1h a b=some v):zr .add (.str a) (.str b)=some (.str v):=by
 unfold q1h at h
 by_cases hl:a.length + b.length≤4611686018427387904
 ·rw [if_pos hl] at h; cases h
  simp only [zr,qic,ke,hl,decide_true,cond_true]
 ·rw [if_neg hl] at h; cases h
section
variable {p:jj} {xc:XC} {h0:Nat} {al:Option (List Nat)} {e:Env} {h:qn}
def jfw (k:IntKind) (h:qn) (x:Option AVal):Option ORes:=match x with
 | some (.int _ n)=>val h (.int k (qm k n))
 | _=>none
@[go_sem] theorem jh8 {k k':IntKind} {n:Int}:jfw k h (some (.int k' n))=some ⟨.int k (qm k n),false,none,h⟩:=rfl
def qtv (h:qn) (x:Option AVal):Option ORes:=match x with
 | some (.str s)=>val h (.str s)
 | some (.int _ n)=>val h (.str (Utf8.encode n).data.toList)
 | _=>none
@[go_sem] theorem q8r {k:IntKind} {n:Int}:qtv h (some (.int k n))=some ⟨.str (Utf8.encode n).data.toList,false,none,h⟩:=rfl
@[go_sem] theorem q6f {s:List UInt8}:qtv h (some (.str s))=some ⟨.str s,false,none,h⟩:=rfl
def qlh (h:qn) (x:Option AVal):Option ORes:=match x with
 | some (.ptr b o)=>val h (.ptr b o)
 | some (.vptr v)=>val h (.vptr v)
 | some (.fn (.func f) a b)=>val h (.fn (.func f) a b)
 | _=>none
@[go_sem] theorem q77 {b o:Nat}:qlh h (some (.ptr b o))=some ⟨.ptr b o,false,none,h⟩:=rfl
@[go_sem] theorem q52 {v:AVal}:qlh h (some (.vptr v))=some ⟨.vptr v,false,none,h⟩:=rfl
@[go_sem] theorem q9o {f:Nat} {a b:List AVal}:qlh h (some (.fn (.func f) a b))=some ⟨.fn (.func f) a b,false,none,h⟩:=rfl
def q6i (agg:Bool) (off n:Nat) (h:qn) (x:Option AVal):Option ORes:=match x with
 | some (.agg cs)=>k8 h (Go.Abs.part agg cs off n)
 | _=>none
@[go_sem] theorem jd2 {agg:Bool} {off n:Nat} {cs:List AVal}:q6i agg off n h (some (.agg cs))=k8 h (Go.Abs.part agg cs off n):=rfl
def jnl (agg:Bool) (len n:Nat) (h:qn) (x i:Option AVal):Option ORes:=match x,i with
 | some (.agg cs),some j=>(match idx len j with
  | some j=>k8 h (Go.Abs.part agg cs (j * n) n)
  | none=>none)
 | _,_=>none
end
section
variable {p:jj} {xc:XC} {h0:Nat} {al:Option (List Nat)} {e:Env} {h:qn} {α:Type}
def qhx (n dflt:Nat):Option Int→Option Nat
 | none=>some dflt
 | some i=>if 0≤i∧i≤n then some i.toNat else none
def q06 (s:List α) (lo hi:Option Int):Option (List α):=match qhx s.length s.length hi with
 | some j=>(match qhx j 0 lo with
  | some i=>some ((s.take j).drop i)
  | none=>none)
 | none=>none
def qmj (o:Option (List α)) (lo hi:Option Int):Option (Option (List α)):=match q06 (o.getD []) lo hi with
 | some l=>some (o.map fun _=>l)
 | none=>none
def qno (dflt n:Nat):Option (Option AVal)→Option Nat
 | none=>some dflt
 | some (some v)=>qmq n v
 | some none=>none
theorem jfg {dflt n:Nat} {x:Option qt}:bnd e dflt n x=qno dflt n (x.map (qi e)):=by
 cases x with
 | none=>rfl
 | some x=>simp only [bnd,Option.map_some,qno]; cases qi e x <;> rfl
theorem q4a {n d:Nat} {k:IntKind} {i:Int}:qmq n (.int k i)=qhx n d (some i):=by
 unfold qmq qhx
 cases i with
 | ofNat m=>
  simp only []
  by_cases hm:m≤n
  ·rw [if_pos ⟨by simp,by simpa using hm⟩,Nat.ble_eq_true_of_le hm]; rfl
  ·rw [if_neg (by simp; omega)]
   cases hb:Nat.ble m n with
   | true=>exact absurd (Nat.le_of_ble_eq_true hb) hm
   | false=>rfl
 | negSucc m=>simp
def q1g (k:IntKind):Option Int→Option (Option AVal)
 | none=>none
 | some i=>some (some (.int k i))
theorem qyu {d n:Nat} {k:IntKind} {x:Option Int}:qno d n (q1g k x)=qhx n d x:=by
 cases x with
 | none=>rfl
 | some i=>exact q4a
def qp2 (sz:Nat) (h:qn) (x:Option AVal) (lo hi:Option (Option AVal)):Option ORes:=match x with
 | some (.list n sz' xs)=>bif Nat.beq sz sz' || xs.isEmpty then (match qno xs.length xs.length hi with
  | some j=>(match qno 0 j lo with
   | some i=>val h (.list n sz' ((xs.take j).drop i))
   | none=>none)
  | none=>none) else none
 | some (.ms b o len)=>(match qno len len hi with
  | some j=>(match qno 0 j lo with
   | some i=>bif Nat.beq i 0 || Nat.blt i j then val h (.ms b (o + i * sz) (j - i)) else none
   | none=>none)
  | none=>none)
 | _=>none
attribute [go_sem] Option.map_some Option.map_none
@[go_sem] theorem jmq {sz:Nat} {x:qt} {lo hi:Option qt}:qe p xc h0 al e h (.slice sz x lo hi)=qp2 sz h (qi e x) (lo.map (qi e)) (hi.map (qi e)):=by
 simp only [qe,qr,qp2,jfg]
 cases qi e x with
 | none=>rfl
 | some v=>cases v <;> rfl
theorem jca {z:Nat} {k k':IntKind} {f:α→AVal} {o v:Option (List α)} {lo hi:Option Int} (hv:qmj o lo hi=some v):qp2 z h (some (sl z f o)) (q1g k lo) (q1g k' hi)=some ⟨sl z f v,false,none,h⟩:=by
 unfold qmj q06 at hv
 cases o with
 | none=>
  simp only [sl,qp2,List.isEmpty_nil,Bool.or_true,cond_true,qyu]
  simp only [Option.getD_none] at hv
  cases h1:qhx ([]:List α).length ([]:List α).length hi with
  | none=>rw [h1] at hv; cases hv
  | some j=>
   rw [h1] at hv
   simp only [] at hv
   cases h2:qhx j 0 lo with
   | none=>rw [h2] at hv; cases hv
   | some i=>
    rw [h2] at hv
    cases hv
    simp only [List.length_nil] at h1
    simp only [List.length_nil,h1,h2,List.take_nil,List.drop_nil]
    rfl
 | some l=>
  simp only [sl,qp2,qfv,decide_true,Bool.true_or,cond_true,qyu,List.length_map]
  simp only [Option.getD_some] at hv
  cases h1:qhx l.length l.length hi with
  | none=>rw [h1] at hv; cases hv
  | some j=>
   rw [h1] at hv
   simp only [] at hv
   cases h2:qhx j 0 lo with
   | none=>rw [h2] at hv; cases hv
   | some i=>
    rw [h2] at hv
    cases hv
    simp only [h2,val,Option.map_some,List.map_drop,List.map_take]
theorem qsq {z:Nat} {k k':IntKind} {f:α→AVal} {o v:Option (List α)} {lo hi:Int} (hv:qmj o (some lo) (some hi)=some v):qp2 z h (some (sl z f o)) (some (some (.int k lo))) (some (some (.int k' hi)))=some ⟨sl z f v,false,none,h⟩:=jca hv
end
section
variable {h:qn} {α:Type}
def apS (o:Option (List α)) (ys:List α):Option (List α):=match o,ys with
 | none,[]=>none
 | o,ys=>some (o.getD []++ys)
def apO (o:Option (List α)) (ys:List α):Option (Option (List α)):=if (o.getD []).length + ys.length≤1073741824 then some (apS o ys) else none
theorem qp3 {z b:Nat} {own:Option Nat} {f:α→AVal} {o:Option (List α)} {ys:List α} {v:Option (List α)} {y:AVal} (hz:0 < z) (hb:b≤4096) (hy:z7 z y=some (ys.map f)) (hv:apO o ys=some v)
  (ho:o=none∨own.isSome=true):appR z b h own (some (sl z f o)) (some y)=some ⟨sl z f v,true,own,h⟩:=by
 unfold apO at hv
 by_cases hl:(o.getD []).length + ys.length≤1073741824
 ·rw [if_pos hl] at hv; cases hv
  cases o with
  | none=>
   simp only [sl,appR,appR.appS,hy,ifR,Bool.true_or,List.isEmpty_nil,Bool.and_true,Bool.or_true,List.length_nil,List.length_map,ke,qav,hz,hb,decide_true]
   simp only [Option.getD_none,List.length_nil] at hl
   simp only [hl,decide_true,Bool.and_self,Bool.or_true]
   cases ys with
   | nil=>rfl
   | cons y ys=>simp [qc1,apS,sl]
  | some l=>
   have ho':own.isSome=true:=by rcases ho with h | h; cases h; exact h
   simp only [sl,appR,appR.appS,hy,ifR,ho',Bool.or_true,qfv,ke,qav,hz,hb,decide_true,Bool.true_or,List.length_map]
   simp only [Option.getD_some] at hl
   simp only [hl,decide_true,Bool.and_self]
   simp [qc1,apS,sl]
 ·rw [if_neg hl] at hv; cases hv
theorem qs2 {z b t:Nat} {f:α→AVal} {o o2 v:Option (List α)} (hv:apO o (o2.getD [])=some v):appR (z + 1) b h (some t) (some (sl (z + 1) f o)) (some (sl (z + 1) f o2))=ifR (decide (b≤4096)) (some ⟨sl (z + 1) f v,true,some t,h⟩):=by
 by_cases hb:b≤4096
 ·rw [qp3 (by omega) hb q0v hv (.inr rfl)]; simp [ifR,hb]
 ·have hb':decide (b≤4096)=false:=by simp [hb]
  rw [hb']
  cases o with
  | none=>simp [sl,appR,appR.appS,ifR,hb,ke]; split <;> rfl
  | some l=>simp [sl,appR,appR.appS,ifR,hb,ke]; split <;> rfl
theorem qo8 {z b t:Nat} {f:α→AVal} {x:α} {y:AVal} {o v:Option (List α)} (hz:0 < z) (hy:z7 z y=some [f x]) (hv:apO o [x]=some v):appR z b h (some t) (some (sl z f o)) (some y)=ifR (decide (b≤4096)) (some ⟨sl z f v,true,some t,h⟩):=by
 by_cases hb:b≤4096
 ·rw [qp3 hz hb hy hv (.inr rfl)]; simp [ifR,hb]
 ·have hb':decide (b≤4096)=false:=by simp [hb]
  rw [hb']
  cases o with
  | none=>simp [sl,appR,appR.appS,ifR,hb,hy,ke]
  | some l=>simp [sl,appR,appR.appS,ifR,hb,hy,ke]
theorem qz5 {z b t:Nat} {f:α→AVal} {o2 v:Option (List α)} (hv:apO (some []) (o2.getD [])=some v):appR (z + 1) b h (some t) (some (.list false (z + 1) [])) (some (sl (z + 1) f o2))=ifR (decide (b≤4096)) (some ⟨sl (z + 1) f v,true,some t,h⟩):=
 qs2 (o:=some []) hv
end
def kh (s:List UInt8):AVal:=.str s
@[go_sem] theorem jeb {h0:Nat} {al:Option (List Nat)} {h:qn} {b:List UInt8}:qan h0 al false 1 h (some (.vptr (kh b)))=some ⟨.str b,false,none,h⟩:=rfl
@[go_sem] theorem jc2 {n z:Nat} {l:Option (List (List UInt8))}:below n (sl z kh l)=true:=qje fun _=>rfl
theorem qfn {b t:Nat} {h:qn} {bb:Bool} {x:Int} {o v:Option (List Int)} (hv:apO o [x]=some v):appR 1 b h (some t) (some (sl 1 qp o)) (some (.list bb 1 [.int .i64 x]))=ifR (decide (b≤4096)) (some ⟨sl 1 qp v,true,some t,h⟩):=qo8 (by omega) rfl hv
theorem qxl {b t:Nat} {h:qn} {bb:Bool} {x:List UInt8} {o v:Option (List (List UInt8))} (hv:apO o [x]=some v):appR 1 b h (some t) (some (sl 1 kh o)) (some (.list bb 1 [.str x]))=ifR (decide (b≤4096)) (some ⟨sl 1 kh v,true,some t,h⟩):=qo8 (by omega) rfl hv
theorem zz {p:jj} {xc:XC} {k:Nat} {args:List AVal} {v v':AVal} {o:Bool} {h:qn} (hp:p.prims k=none) (hc:jm p xc k args []=some (v,o,h)) (hz:freezeR h v=some v') (hv:below 0 v'=true) (hl:v.isList=true):qd p xc k args=some (v',o):=by
 rw [qoj hp hc hz hv,hl,Bool.and_true]
structure yt where
 num:Int
 den:Int
open Classical in
noncomputable def exO {α:Type} (P:Prop) (v:α):Option α:=if P then some v else none
theorem qup {α:Type} {P:Prop} {v r:α} (h:exO P v=some r):P∧v=r:=by
 unfold exO at h
 split at h
 ·rename_i hp; cases h; exact ⟨hp,rfl⟩
 ·cases h
theorem qz2 {α:Type} {P:Prop} {v:α} (h:P):exO P v=some v:=by unfold exO; rw [if_pos h]
end Go.Z
/-
 Slices that are written,arrays of numbers,own slices that grow: the pieces for the printed walks.
-/
namespace Go.Z
open Go Go.Abs
section
variable {p:jj} {xc:XC} {h0:Nat} {al:Option (List Nat)} {e:Env} {h:qn} {α:Type}
def qyk (h0 r sz bytes:Nat) (zero:List AVal) (h:qn) (n c:Option AVal):Option ORes:=match n,c with
 | some (.int .i64 (.ofNat n)),some (.int .i64 (.ofNat c))=>
  bif Nat.beq n c && Nat.ble n 1073741824 && Nat.ble bytes 4096 && Nat.beq zero.length sz && Nat.blt 0 sz && zero.all qo then
   (match newBox h0 h r (.cells (cellsOf (List.replicate n zero).flatten)) with
    | some h'=>val h' (.ms (h0 + r) 0 n)
    | none=>none) else none
 | _,_=>none
@[go_sem] theorem jmi {r sz b:Nat} {z:List AVal} {n c:qt}:qe p xc h0 al e h (.mkslice (some r) sz b z n c)=qyk h0 r sz b z h (qi e n) (qi e c):=by
 simp only [qe,qw,qyk]
 rfl
def qr4 (h0 r sz bytes:Nat) (h:qn) (own:Option Nat) (x y:Option AVal):Option ORes:=match x,y with
 | some (.list false sz' []),some vy=>
  bif own.isSome && Nat.beq sz sz' then
   (match z7 sz vy with
    | some ys=>
     bif Nat.ble ys.length 1073741824 && Nat.ble bytes 4096 && Nat.blt 0 sz then
      (match newBox h0 h r (.cells (cellsOf (ys.flatMap AVal.flat))) with
       | some h'=>some ⟨.ms (h0 + r) 0 ys.length,false,own,h'⟩
       | none=>none)
     else none
    | none=>none)
  else none
 | _,_=>none
@[go_sem] theorem jg7 {r sz b:Nat} {x y:qt}:qe p xc h0 al e h (.append (some r) sz b x y)=qr4 h0 r sz b h (j6 e x) (qi e x) (qi e y):=by
 simp only [qe,qw,qr4]
 rfl
def qth (own:Option Nat) (v:AVal) (r:Option qn):Option ORes:=match r with
 | some h'=>some ⟨v,false,own,h'⟩
 | none=>none
@[go_sem] theorem q99 {own:Option Nat} {v:AVal}:qth own v (some h)=some ⟨v,false,own,h⟩:=rfl
theorem qjl {z b:Nat} {f:α→AVal} {x:α} {y:AVal} {o v:Option (List α)} (hz:0 < z) (hy:z7 z y=some [f x]) (hn:o.isNone=true) (hv:apO o [x]=some v):appR z b h none (some (sl z f o)) (some y)=ifR (decide (b≤4096)) (some ⟨sl z f v,true,none,h⟩):=by
 cases o with
 | some l=>cases hn
 | none=>
  by_cases hb:b≤4096
  ·rw [qp3 hz hb hy hv (.inl rfl)]; simp [ifR,hb]
  ·have hb':decide (b≤4096)=false:=by simp [hb]
   rw [hb']
   simp [sl,appR,appR.appS,ifR,hb,hy,ke]
theorem qfm {b:Nat} {bb:Bool} {x:Int} {o v:Option (List Int)} (hv:apO o [x]=some v) (hn:o.isNone=true):appR 1 b h none (some (sl 1 qp o)) (some (.list bb 1 [.int .i64 x]))=ifR (decide (b≤4096)) (some ⟨sl 1 qp v,true,none,h⟩):=qjl (by omega) rfl hn hv
attribute [go_sem] Nat.le_refl
end
end Go.Z
/-
 Lists of texts: appends to a list that is nil.
-/
namespace Go.Z
open Go Go.Abs
variable {h:qn}
theorem qw3 {b:Nat} {bb:Bool} {x:List UInt8} {o v:Option (List (List UInt8))} (hv:apO o [x]=some v) (hn:o.isNone=true):appR 1 b h none (some (sl 1 kh o)) (some (.list bb 1 [.str x]))=ifR (decide (b≤4096)) (some ⟨sl 1 kh v,true,none,h⟩):=qjl (by omega) rfl hn hv
theorem jk {b pos:Nat} {s:List UInt8} (hp:decide (pos < s.length)=true):qfg h b (some (.iter s pos))=kc (jn h b (.iter s (pos + (qk s pos).2))) (.tup [.bool true,.int .i64 pos,.int .i32 (qk s pos).1]):=q1f (of_decide_eq_true hp)
theorem qze {b pos:Nat} {s:List UInt8} (hp:decide (pos < s.length)=false):qfg h b (some (.iter s pos))=some ⟨.tup [.bool false],false,none,h⟩:=qyt (of_decide_eq_false hp)
end Go.Z
