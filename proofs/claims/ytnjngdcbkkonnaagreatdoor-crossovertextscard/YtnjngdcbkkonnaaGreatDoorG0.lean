/- Functions in Option that mirror the machine's runs. -/
import Derived.Test.YtnjngdcbkkonnaaGreatDoorL1
set_option linter.unusedVariables false
set_option linter.unusedSimpArgs false
set_option maxRecDepth 100000
namespace Go.Z
open Go Go.Abs
def qg {α β:Type} (x:Option α) (f:α→Option β):Option β:=match x with
 | some a=>f a
 | none=>none
@[simp] theorem qj {α β:Type} {a:α} {f:α→Option β}:qg (some a) f=f a:=rfl
@[simp] theorem jkn {α β:Type} {f:α→Option β}:qg none f=none:=rfl
theorem qb {α β:Type} {x:Option α} {f:α→Option β} {r:β} (h:qg x f=some r):∃ a,x=some a∧f a=some r:=by
 cases x with
 | none=>cases h
 | some a=>exact ⟨a,rfl,h⟩
theorem qa {α:Type} {c:Bool} {a b r:α} (h:cond c a b=r):(c=true∧a=r)∨(c=false∧b=r):=by
 cases c
 ·exact .inr ⟨rfl,h⟩
 ·exact .inl ⟨rfl,h⟩
def itF {σ δ:Type} (f:σ→Option (σ ⊕ δ)):Nat→σ→Option δ
 | 0,_=>none
 | n + 1,s=>match f s with
  | none=>none
  | some (.inl s')=>itF f n s'
  | some (.inr d)=>some d
theorem qsv {σ δ:Type} {f:σ→Option (σ ⊕ δ)} {d:δ}:∀ {n:Nat} {s:σ},itF f n s=some d→itF f (n + 1) s=some d
 | 0,_,h=>by cases h
 | n + 1,s,h=>by
  rw [itF] at h ⊢
  cases hf:f s with
  | none=>rw [hf] at h; cases h
  | some x=>
   rw [hf] at h
   cases x with
   | inl s'=>exact qsv h
   | inr d'=>exact h
theorem qz8 {σ δ:Type} {f:σ→Option (σ ⊕ δ)} {d:δ} {n m:Nat} {s:σ} (hm:n≤m) (h:itF f n s=some d):itF f m s=some d:=by
 induction hm with
 | refl=>exact h
 | step _ ih=>exact qsv ih
open Classical in
noncomputable def itO {σ δ:Type} (f:σ→Option (σ ⊕ δ)) (s:σ):Option δ:=
 if h:∃ d n,itF f n s=some d then some (Classical.choose h) else none
theorem ql1 {σ δ:Type} {f:σ→Option (σ ⊕ δ)} {s:σ} {d:δ}:itO f s=some d↔∃ n,itF f n s=some d:=by
 unfold itO
 constructor
 ·intro h
  split at h
  ·rename_i hh; cases h; exact Classical.choose_spec hh
  ·cases h
 ·rintro ⟨n,hn⟩
  have hh:∃ d n,itF f n s=some d:=⟨d,n,hn⟩
  rw [dif_pos hh]
  obtain ⟨m,hm⟩:=Classical.choose_spec hh
  have h1:=qz8 (Nat.le_max_left n m) hn
  have h2:=qz8 (Nat.le_max_right n m) hm
  rw [h1] at h2
  exact h2.symm
theorem qau {σ δ:Type} {f:σ→Option (σ ⊕ δ)} {s s':σ} (h:f s=some (.inl s')):itO f s=itO f s':=by
 apply Option.ext
 intro d
 rw [ql1,ql1]
 constructor
 ·rintro ⟨n,hn⟩
  cases n with
  | zero=>cases hn
  | succ n=>rw [itF,h] at hn; exact ⟨n,hn⟩
 ·rintro ⟨n,hn⟩
  exact ⟨n + 1,by rw [itF,h]; exact hn⟩
theorem zo {σ δ:Type} {f:σ→Option (σ ⊕ δ)} {s:σ} {d:δ} (h:f s=some (.inr d)):itO f s=some d:=
 ql1.2 ⟨1,by rw [itF,h]⟩
def zh {σ δ:Type} (p:jm) (c:ACode) (St:σ→ASt) (Ex:δ→je × ASt) (s:σ) (r:σ ⊕ δ):Prop:=match r with
 | .inl s'=>∃ st',X p c (St s)=some (.normal,st')∧gc (St s).heap.length st'=St s'
 | .inr d=>X p c (St s)=some (Ex d)
theorem qq {σ δ:Type} {p:jm} {c:ACode} {St:σ→ASt} {Ex:δ→je × ASt} {s s':σ} {st':ASt} (hx:X p c (St s)=some (.normal,st')) (hc:gc (St s).heap.length st'=St s'):zh p c St Ex s (.inl s'):=⟨st',hx,hc⟩
theorem qk {σ δ:Type} {p:jm} {c:ACode} {St:σ→ASt} {Ex:δ→je × ASt} {s:σ} {d:δ} (hx:X p c (St s)=some (Ex d)):zh p c St Ex s (.inr d):=hx
theorem q3x {σ δ:Type} {p:jm} {c:ACode} {St:σ→ASt} {Ex:δ→je × ASt} {f:σ→Option (σ ⊕ δ)} (hb:∀ s r,f s=some r→zh p c St Ex s r) (hX:∀ d,(Ex d).1 ≠ .normal) {d:δ}:
  ∀ {n:Nat} {s:σ},itF f n s=some d→X p (.loop c) (St s)=some (Ex d)
 | 0,_,h=>by cases h
 | n + 1,s,h=>by
  rw [itF] at h
  rw [qwh]
  cases hf:f s with
  | none=>rw [hf] at h; cases h
  | some x=>
   rw [hf] at h
   have hs:=hb s x hf
   cases x with
   | inl s'=>
    obtain ⟨st',h1,h2⟩:=hs
    rw [h1,qrw,h2]
    exact q3x hb hX h
   | inr d'=>
    cases h
    rw [show X p c (St s)=some (Ex d) from hs,qzj (hX d)]
theorem zz {σ δ:Type} {p:jm} {c:ACode} {St:σ→ASt} {Ex:δ→je × ASt} {f:σ→Option (σ ⊕ δ)} (hb:∀ s r,f s=some r→zh p c St Ex s r) (hX:∀ d,(Ex d).1 ≠ .normal) {s:σ} {d:δ} (h:itO f s=some d):X p (.loop c) (St s)=some (Ex d):=by
 obtain ⟨n,hn⟩:=ql1.1 h
 exact q3x hb hX hn
section
variable {h0:Nat} {al:Option (List Nat)} {h:qm} {α:Type}
def jy (l:List α) (i:Int):Option α:=if 0≤i then l[i.toNat]? else none
theorem qaw {l:List α} {i:Nat}:jy l (i:Int)=l[i]?:=by simp [jy]
theorem q9 {z:Nat} {f:α→AVal} {l:Option (List α)} {k:IntKind} {i:Int} {x:α} (hx:jy (l.getD []) i=some x):qkl z h (some (sl z f l)) (some (.int k i))=some ⟨.vptr (f x),false,none,h⟩:=by
 unfold jy at hx
 by_cases hi:0≤i
 ·rw [if_pos hi] at hx
  obtain ⟨n,rfl⟩:∃ n:Nat,i=(n:Int):=⟨i.toNat,by omega⟩
  exact q6e (by simpa using hx)
 ·rw [if_neg hi] at hx; cases hx
theorem jg {s:List UInt8} {k:IntKind} {i:Int} {c:UInt8} (hx:jy s i=some c):qi3 h (some (.str s)) (some (.int k i))=some ⟨.int .u8 (c.toNat:Int),false,none,h⟩:=by
 unfold jy at hx
 by_cases hi:0≤i
 ·rw [if_pos hi] at hx
  obtain ⟨n,rfl⟩:∃ n:Nat,i=(n:Int):=⟨i.toNat,by omega⟩
  exact qy2 (by simpa using hx)
 ·rw [if_neg hi] at hx; cases hx
end
section
variable {h:qm}
@[go_sem] theorem q6p {agg:Bool} {len sz b o n:Nat} {k:IntKind}:qcc agg len sz h (some (.ptr b o)) (some (.int k (no_index (OfNat.ofNat n:Int))))=ifR (decide ((OfNat.ofNat n:Nat) < len)) (some ⟨.ptr b (o + (OfNat.ofNat n:Nat) * sz),false,none,h⟩):=by
 have e:(OfNat.ofNat n:Int)=(n:Int):=rfl
 have e':(OfNat.ofNat n:Nat)=n:=rfl
 rw [e,e']
 by_cases hn:n < len
 ·simp [qcc,qd6,qni hn,hn,ifR,val]
 ·have hi:qhn len (n:Int)=none:=by unfold qhn; rw [if_neg (by omega)]
  simp [qcc,qd6,hi,hn,ifR]
@[go_sem] theorem q54 {agg:Bool} {len sz n:Nat} {k:IntKind} {cs:List AVal}:qcc agg len sz h (some (.vptr (.agg cs))) (some (.int k (no_index (OfNat.ofNat n:Int))))=ifR (decide ((OfNat.ofNat n:Nat) < len)) (qdn agg h (Go.Abs.part agg cs ((OfNat.ofNat n:Nat) * sz) sz)):=by
 have e:(OfNat.ofNat n:Int)=(n:Int):=rfl
 have e':(OfNat.ofNat n:Nat)=n:=rfl
 rw [e,e']
 by_cases hn:n < len
 ·simp [qcc,qd6,qni hn,hn,ifR,qdn]; rfl
 ·have hi:qhn len (n:Int)=none:=by unfold qhn; rw [if_neg (by omega)]
  simp [qcc,qd6,hi,hn,ifR]
end
def qkp (k:IntKind) (x y:Int):Option Int:=if y=0 then none else some (qi k (x.tdiv y))
def qlo (x y:Int):Option Int:=if y=0 then none else some (x.tmod y)
theorem qv6 {k:IntKind} {x y v:Int} (h:qkp k x y=some v):zd .quo (.int k x) (.int k y)=some (.int k v):=by
 unfold qkp at h
 by_cases hy:y=0
 ·rw [if_pos hy] at h; cases h
 ·rw [if_neg hy] at h; cases h
  have:(y == 0)=false:=by simp [hy]
  simp [zd,qas,this]
theorem qvp {k:IntKind} {x y v:Int} (h:qlo x y=some v):zd .rem (.int k x) (.int k y)=some (.int k v):=by
 unfold qlo at h
 by_cases hy:y=0
 ·rw [if_pos hy] at h; cases h
 ·rw [if_neg hy] at h; cases h
  have:(y == 0)=false:=by simp [hy]
  simp [zd,qas,this]
def kx (a b:List UInt8):Option (List UInt8):=if a.length + b.length≤4611686018427387904 then some (a++b) else none
theorem qco {a b v:List UInt8} (h:kx a b=some v):zd .add (.str a) (.str b)=some (.str v):=by
 unfold kx at h
 by_cases hl:a.length + b.length≤4611686018427387904
 ·rw [if_pos hl] at h; cases h
  simp only [zd,qi4,kw,hl,decide_true,cond_true]
 ·rw [if_neg hl] at h; cases h
section
variable {p:jm} {xc:XC} {h0:Nat} {al:Option (List Nat)} {e:Env} {h:qm}
def qxq (k:IntKind) (h:qm) (x:Option AVal):Option ORes:=match x with
 | some (.int _ n)=>val h (.int k (qi k n))
 | _=>none
@[go_sem] theorem jhe {k k':IntKind} {n:Int}:qxq k h (some (.int k' n))=some ⟨.int k (qi k n),false,none,h⟩:=rfl
@[go_sem] theorem jnb {k:IntKind} {x:qr}:qc p xc h0 al e h (.conv k x)=qxq k h (qh e x):=by
 simp only [qc,qp,qxq]
 cases qh e x with
 | none=>rfl
 | some v=>cases v <;> rfl
def qjb (h:qm) (x:Option AVal):Option ORes:=match x with
 | some (.str s)=>val h (.str s)
 | some (.int _ n)=>val h (.str (Utf8.encode n).data.toList)
 | _=>none
@[go_sem] theorem q7o {k:IntKind} {n:Int}:qjb h (some (.int k n))=some ⟨.str (Utf8.encode n).data.toList,false,none,h⟩:=rfl
@[go_sem] theorem q7d {s:List UInt8}:qjb h (some (.str s))=some ⟨.str s,false,none,h⟩:=rfl
@[go_sem] theorem jgv {x:qr}:qc p xc h0 al e h (.convStr x)=qjb h (qh e x):=by
 simp only [qc,qp,qjb]
 cases qh e x with
 | none=>rfl
 | some v=>cases v <;> rfl
def qet (h:qm) (x:Option AVal):Option ORes:=match x with
 | some (.ptr b o)=>val h (.ptr b o)
 | some (.vptr v)=>val h (.vptr v)
 | some (.fn (.func f) a b)=>val h (.fn (.func f) a b)
 | _=>none
@[go_sem] theorem q8p {b o:Nat}:qet h (some (.ptr b o))=some ⟨.ptr b o,false,none,h⟩:=rfl
@[go_sem] theorem q51 {v:AVal}:qet h (some (.vptr v))=some ⟨.vptr v,false,none,h⟩:=rfl
@[go_sem] theorem q9l {f:Nat} {a b:List AVal}:qet h (some (.fn (.func f) a b))=some ⟨.fn (.func f) a b,false,none,h⟩:=rfl
@[go_sem] theorem jbd {x:qr}:qc p xc h0 al e h (.nilCheck x)=qet h (qh e x):=by
 simp only [qc,qp,qet]; rfl
def q6a (agg:Bool) (off n:Nat) (h:qm) (x:Option AVal):Option ORes:=match x with
 | some (.agg cs)=>k9 h (Go.Abs.part agg cs off n)
 | _=>none
@[go_sem] theorem jff {agg:Bool} {off n:Nat} {cs:List AVal}:q6a agg off n h (some (.agg cs))=k9 h (Go.Abs.part agg cs off n):=rfl
def jmw (agg:Bool) (len n:Nat) (h:qm) (x i:Option AVal):Option ORes:=match x,i with
 | some (.agg cs),some j=>(match idx len j with
  | some j=>k9 h (Go.Abs.part agg cs (j * n) n)
  | none=>none)
 | _,_=>none
end
section
variable {p:jm} {xc:XC} {h0:Nat} {al:Option (List Nat)} {e:Env} {h:qm} {α:Type}
def qby (n dflt:Nat):Option Int→Option Nat
 | none=>some dflt
 | some i=>if 0≤i∧i≤n then some i.toNat else none
def qaz (s:List α) (lo hi:Option Int):Option (List α):=match qby s.length s.length hi with
 | some j=>(match qby j 0 lo with
  | some i=>some ((s.take j).drop i)
  | none=>none)
 | none=>none
def qb3 (o:Option (List α)) (lo hi:Option Int):Option (Option (List α)):=match qaz (o.getD []) lo hi with
 | some l=>some (o.map fun _=>l)
 | none=>none
def qj0 (dflt n:Nat):Option (Option AVal)→Option Nat
 | none=>some dflt
 | some (some v)=>qmf n v
 | some none=>none
theorem q3s {dflt n:Nat} {x:Option qr}:bnd e dflt n x=qj0 dflt n (x.map (qh e)):=by
 cases x with
 | none=>rfl
 | some x=>simp only [bnd,Option.map_some,qj0]; cases qh e x <;> rfl
theorem q4d {n d:Nat} {k:IntKind} {i:Int}:qmf n (.int k i)=qby n d (some i):=by
 unfold qmf qby
 cases i with
 | ofNat m=>
  simp only []
  by_cases hm:m≤n
  ·rw [if_pos ⟨by simp,by simpa using hm⟩,Nat.ble_eq_true_of_le hm]; rfl
  ·rw [if_neg (by simp; omega)]
   cases hb:Nat.ble m n with
   | true=>exact absurd (Nat.le_of_ble_eq_true hb) hm
   | false=>rfl
 | negSucc m=>simp
def qr6 (k:IntKind):Option Int→Option (Option AVal)
 | none=>none
 | some i=>some (some (.int k i))
theorem qsj {d n:Nat} {k:IntKind} {x:Option Int}:qj0 d n (qr6 k x)=qby n d x:=by
 cases x with
 | none=>rfl
 | some i=>exact q4d
def qnb (sz:Nat) (h:qm) (x:Option AVal) (lo hi:Option (Option AVal)):Option ORes:=match x with
 | some (.list n sz' xs)=>bif Nat.beq sz sz' || xs.isEmpty then (match qj0 xs.length xs.length hi with
  | some j=>(match qj0 0 j lo with
   | some i=>val h (.list n sz' ((xs.take j).drop i))
   | none=>none)
  | none=>none) else none
 | some (.ms b o len)=>(match qj0 len len hi with
  | some j=>(match qj0 0 j lo with
   | some i=>bif Nat.beq i 0 || Nat.blt i j then val h (.ms b (o + i * sz) (j - i)) else none
   | none=>none)
  | none=>none)
 | _=>none
attribute [go_sem] Option.map_some Option.map_none
@[go_sem] theorem jmh {sz:Nat} {x:qr} {lo hi:Option qr}:qc p xc h0 al e h (.slice sz x lo hi)=qnb sz h (qh e x) (lo.map (qh e)) (hi.map (qh e)):=by
 simp only [qc,qp,qnb,q3s]
 cases qh e x with
 | none=>rfl
 | some v=>cases v <;> rfl
theorem q3l {z:Nat} {k k':IntKind} {f:α→AVal} {o v:Option (List α)} {lo hi:Option Int} (hv:qb3 o lo hi=some v):qnb z h (some (sl z f o)) (qr6 k lo) (qr6 k' hi)=some ⟨sl z f v,false,none,h⟩:=by
 unfold qb3 qaz at hv
 cases o with
 | none=>
  simp only [sl,qnb,List.isEmpty_nil,Bool.or_true,cond_true,qsj]
  simp only [Option.getD_none] at hv
  cases h1:qby ([]:List α).length ([]:List α).length hi with
  | none=>rw [h1] at hv; cases hv
  | some j=>
   rw [h1] at hv
   simp only [] at hv
   cases h2:qby j 0 lo with
   | none=>rw [h2] at hv; cases hv
   | some i=>
    rw [h2] at hv
    cases hv
    simp only [List.length_nil] at h1
    simp only [List.length_nil,h1,h2,List.take_nil,List.drop_nil]
    rfl
 | some l=>
  simp only [sl,qnb,ql6,decide_true,Bool.true_or,cond_true,qsj,List.length_map]
  simp only [Option.getD_some] at hv
  cases h1:qby l.length l.length hi with
  | none=>rw [h1] at hv; cases hv
  | some j=>
   rw [h1] at hv
   simp only [] at hv
   cases h2:qby j 0 lo with
   | none=>rw [h2] at hv; cases hv
   | some i=>
    rw [h2] at hv
    cases hv
    simp only [h2,val,Option.map_some,List.map_drop,List.map_take]
theorem qud {z:Nat} {k k':IntKind} {f:α→AVal} {o v:Option (List α)} {lo hi:Int} (hv:qb3 o (some lo) (some hi)=some v):qnb z h (some (sl z f o)) (some (some (.int k lo))) (some (some (.int k' hi)))=some ⟨sl z f v,false,none,h⟩:=q3l hv
theorem qpn {z:Nat} {k:IntKind} {f:α→AVal} {o v:Option (List α)} {lo:Int} (hv:qb3 o (some lo) none=some v):qnb z h (some (sl z f o)) (some (some (.int k lo))) none=some ⟨sl z f v,false,none,h⟩:=q3l (k':=k) hv
def qj4 (h:qm) (x:Option AVal) (lo hi:Option (Option AVal)):Option ORes:=match x with
 | some (.str s)=>(match qj0 s.length s.length hi with
  | some j=>(match qj0 0 j lo with
   | some i=>val h (.str ((s.take j).drop i))
   | none=>none)
  | none=>none)
 | _=>none
@[go_sem] theorem jbs {x:qr} {lo hi:Option qr}:qc p xc h0 al e h (.strSlice x lo hi)=qj4 h (qh e x) (lo.map (qh e)) (hi.map (qh e)):=by
 simp only [qc,qp,qj4,q3s]
 cases qh e x with
 | none=>rfl
 | some v=>cases v <;> rfl
theorem qtb {k k':IntKind} {s v:List UInt8} {lo hi:Option Int} (hv:qaz s lo hi=some v):qj4 h (some (.str s)) (qr6 k lo) (qr6 k' hi)=some ⟨.str v,false,none,h⟩:=by
 unfold qaz at hv
 simp only [qj4,qsj]
 cases h1:qby s.length s.length hi with
 | none=>rw [h1] at hv; cases hv
 | some j=>
  rw [h1] at hv
  simp only [] at hv
  cases h2:qby j 0 lo with
  | none=>rw [h2] at hv; cases hv
  | some i=>rw [h2] at hv; cases hv; simp only [h2,val]
theorem qqu {k k':IntKind} {s v:List UInt8} {lo hi:Int} (hv:qaz s (some lo) (some hi)=some v):qj4 h (some (.str s)) (some (some (.int k lo))) (some (some (.int k' hi)))=some ⟨.str v,false,none,h⟩:=qtb hv
theorem qj6 {k:IntKind} {s v:List UInt8} {lo:Int} (hv:qaz s (some lo) none=some v):qj4 h (some (.str s)) (some (some (.int k lo))) none=some ⟨.str v,false,none,h⟩:=qtb (k':=k) hv
theorem qsr {k:IntKind} {s v:List UInt8} {hi:Int} (hv:qaz s none (some hi)=some v):qj4 h (some (.str s)) none (some (some (.int k hi)))=some ⟨.str v,false,none,h⟩:=qtb (k:=k) hv
end
section
variable {h:qm} {α:Type}
def apS (o:Option (List α)) (ys:List α):Option (List α):=match o,ys with
 | none,[]=>none
 | o,ys=>some (o.getD []++ys)
def apO (o:Option (List α)) (ys:List α):Option (Option (List α)):=if (o.getD []).length + ys.length≤1073741824 then some (apS o ys) else none
theorem qpl {z b:Nat} {own:Option Nat} {f:α→AVal} {o:Option (List α)} {ys:List α} {v:Option (List α)} {y:AVal} (hz:0 < z) (hb:b≤4096) (hy:yb z y=some (ys.map f)) (hv:apO o ys=some v)
  (ho:o=none∨own.isSome=true):appR z b h own (some (sl z f o)) (some y)=some ⟨sl z f v,true,own,h⟩:=by
 unfold apO at hv
 by_cases hl:(o.getD []).length + ys.length≤1073741824
 ·rw [if_pos hl] at hv; cases hv
  cases o with
  | none=>
   simp only [sl,appR,appR.appS,hy,ifR,Bool.true_or,List.isEmpty_nil,Bool.and_true,Bool.or_true,List.length_nil,List.length_map,kw,qbx,hz,hb,decide_true]
   simp only [Option.getD_none,List.length_nil] at hl
   simp only [hl,decide_true,Bool.and_self,Bool.or_true]
   cases ys with
   | nil=>rfl
   | cons y ys=>simp [qdo,apS,sl]
  | some l=>
   have ho':own.isSome=true:=by rcases ho with h | h; cases h; exact h
   simp only [sl,appR,appR.appS,hy,ifR,ho',Bool.or_true,ql6,kw,qbx,hz,hb,decide_true,Bool.true_or,List.length_map]
   simp only [Option.getD_some] at hl
   simp only [hl,decide_true,Bool.and_self]
   simp [qdo,apS,sl]
 ·rw [if_neg hl] at hv; cases hv
theorem q16 {z b t:Nat} {f:α→AVal} {o o2 v:Option (List α)} (hv:apO o (o2.getD [])=some v):appR (z + 1) b h (some t) (some (sl (z + 1) f o)) (some (sl (z + 1) f o2))=ifR (decide (b≤4096)) (some ⟨sl (z + 1) f v,true,some t,h⟩):=by
 by_cases hb:b≤4096
 ·rw [qpl (by omega) hb q8l hv (.inr rfl)]; simp [ifR,hb]
 ·have hb':decide (b≤4096)=false:=by simp [hb]
  rw [hb']
  cases o with
  | none=>simp [sl,appR,appR.appS,ifR,hb,kw]; split <;> rfl
  | some l=>simp [sl,appR,appR.appS,ifR,hb,kw]; split <;> rfl
theorem qor {z b t:Nat} {f:α→AVal} {x:α} {y:AVal} {o v:Option (List α)} (hz:0 < z) (hy:yb z y=some [f x]) (hv:apO o [x]=some v):appR z b h (some t) (some (sl z f o)) (some y)=ifR (decide (b≤4096)) (some ⟨sl z f v,true,some t,h⟩):=by
 by_cases hb:b≤4096
 ·rw [qpl hz hb hy hv (.inr rfl)]; simp [ifR,hb]
 ·have hb':decide (b≤4096)=false:=by simp [hb]
  rw [hb']
  cases o with
  | none=>simp [sl,appR,appR.appS,ifR,hb,hy,kw]
  | some l=>simp [sl,appR,appR.appS,ifR,hb,hy,kw]
end
def j5 (s:List UInt8):AVal:=.str s
@[go_sem] theorem je6 {h0:Nat} {al:Option (List Nat)} {h:qm} {b:List UInt8}:qap h0 al false 1 h (some (.vptr (j5 b)))=some ⟨.str b,false,none,h⟩:=rfl
@[go_sem] theorem jbj {n z:Nat} {l:Option (List (List UInt8))}:below n (sl z j5 l)=true:=qjl fun _=>rfl
theorem qjx {b t:Nat} {h:qm} {bb:Bool} {x:Int} {o v:Option (List Int)} (hv:apO o [x]=some v):appR 1 b h (some t) (some (sl 1 jo o)) (some (.list bb 1 [.int .i64 x]))=ifR (decide (b≤4096)) (some ⟨sl 1 jo v,true,some t,h⟩):=qor (by omega) rfl hv
theorem qjo {b t:Nat} {h:qm} {bb:Bool} {x:List UInt8} {o v:Option (List (List UInt8))} (hv:apO o [x]=some v):appR 1 b h (some t) (some (sl 1 j5 o)) (some (.list bb 1 [.str x]))=ifR (decide (b≤4096)) (some ⟨sl 1 j5 v,true,some t,h⟩):=qor (by omega) rfl hv
theorem zx {p:jm} {xc:XC} {k:Nat} {args:List AVal} {v v':AVal} {o:Bool} {h:qm} (hp:p.prims k=none) (hc:ja p xc k args []=some (v,o,h)) (hz:freezeR h v=some v') (hv:below 0 v'=true) (hl:v.isList=true):qd p xc k args=some (v',o):=by
 rw [jj hp hc hz hv,hl,Bool.and_true]
structure qli where
 num:Int
 den:Int
open Classical in
noncomputable def exO {α:Type} (P:Prop) (v:α):Option α:=if P then some v else none
theorem qjj {α:Type} {P:Prop} {v r:α} (h:exO P v=some r):P∧v=r:=by
 unfold exO at h
 split at h
 ·rename_i hp; cases h; exact ⟨hp,rfl⟩
 ·cases h
theorem qi0 {α:Type} {P:Prop} {v:α} (h:P):exO P v=some v:=by unfold exO; rw [if_pos h]
section
variable {p:jm} {xc:XC} {h0:Nat} {al:Option (List Nat)} {e:Env} {h:qm} {α:Type}
def q6g (own:Option Nat) (v:AVal) (r:Option qm):Option ORes:=match r with
 | some h'=>some ⟨v,false,own,h'⟩
 | none=>none
@[go_sem] theorem q9h {own:Option Nat} {v:AVal}:q6g own v (some h)=some ⟨v,false,own,h⟩:=rfl
theorem qjt {z b:Nat} {f:α→AVal} {x:α} {y:AVal} {o v:Option (List α)} (hz:0 < z) (hy:yb z y=some [f x]) (hn:o.isNone=true) (hv:apO o [x]=some v):appR z b h none (some (sl z f o)) (some y)=ifR (decide (b≤4096)) (some ⟨sl z f v,true,none,h⟩):=by
 cases o with
 | some l=>cases hn
 | none=>
  by_cases hb:b≤4096
  ·rw [qpl hz hb hy hv (.inl rfl)]; simp [ifR,hb]
  ·have hb':decide (b≤4096)=false:=by simp [hb]
   rw [hb']
   simp [sl,appR,appR.appS,ifR,hb,hy,kw]
theorem qjf {b:Nat} {bb:Bool} {x:Int} {o v:Option (List Int)} (hv:apO o [x]=some v) (hn:o.isNone=true):appR 1 b h none (some (sl 1 jo o)) (some (.list bb 1 [.int .i64 x]))=ifR (decide (b≤4096)) (some ⟨sl 1 jo v,true,none,h⟩):=qjt (by omega) rfl hn hv
attribute [go_sem] Nat.le_refl
end
theorem qba {i:Nat} (h:i < 9223372036854775807):qi .i64 ((i:Int) + 1)=((i + 1:Nat):Int):=by
 rw [qg6 (by omega) (by omega)]; rfl
variable {h:qm}
theorem qj7 {b:Nat} {bb:Bool} {x:List UInt8} {o v:Option (List (List UInt8))} (hv:apO o [x]=some v) (hn:o.isNone=true):appR 1 b h none (some (sl 1 j5 o)) (some (.list bb 1 [.str x]))=ifR (decide (b≤4096)) (some ⟨sl 1 j5 v,true,none,h⟩):=qjt (by omega) rfl hn hv
theorem jl {b pos:Nat} {s:List UInt8} (hp:decide (pos < s.length)=true):qfs h b (some (.iter s pos))=kl (jq h b (.iter s (pos + (qe s pos).2))) (.tup [.bool true,.int .i64 pos,.int .i32 (qe s pos).1]):=q2q (of_decide_eq_true hp)
theorem qtz {b pos:Nat} {s:List UInt8} (hp:decide (pos < s.length)=false):qfs h b (some (.iter s pos))=some ⟨.tup [.bool false],false,none,h⟩:=q0l (of_decide_eq_false hp)
end Go.Z
