/- Functions in Option that mirror the machine's runs. -/
import Derived.Test.YtfopaakmgogpiaaGreatDoorL1
import Derived.Test.YtfopaakmgogpiaaGreatDoorAbsH
set_option linter.unusedVariables false
set_option linter.unusedSimpArgs false
set_option maxRecDepth 100000
namespace Go.Z
open Go Go.Abs
def qa {α β:Type} (x:Option α) (f:α→Option β):Option β:=match x with
 | some a=>f a
 | none=>none
@[simp] theorem qtg {α β:Type} {a:α} {f:α→Option β}:qa (some a) f=f a:=rfl
@[simp] theorem j7o {α β:Type} {f:α→Option β}:qa none f=none:=rfl
theorem qb {α β:Type} {x:Option α} {f:α→Option β} {r:β} (h:qa x f=some r):∃ a,x=some a∧f a=some r:=by
 cases x with
 | none=>cases h
 | some a=>exact ⟨a,rfl,h⟩
theorem qd {α:Type} {c:Bool} {a b r:α} (h:cond c a b=r):(c=true∧a=r)∨(c=false∧b=r):=by
 cases c
 ·exact .inr ⟨rfl,h⟩
 ·exact .inl ⟨rfl,h⟩
def itF {σ δ:Type} (f:σ→Option (σ ⊕ δ)):Nat→σ→Option δ
 | 0,_=>none
 | n + 1,s=>match f s with
  | none=>none
  | some (.inl s')=>itF f n s'
  | some (.inr d)=>some d
theorem q1r {σ δ:Type} {f:σ→Option (σ ⊕ δ)} {d:δ}:∀ {n:Nat} {s:σ},itF f n s=some d→itF f (n + 1) s=some d
 | 0,_,h=>by cases h
 | n + 1,s,h=>by
  rw [itF] at h ⊢
  cases hf:f s with
  | none=>rw [hf] at h; cases h
  | some x=>
   rw [hf] at h
   cases x with
   | inl s'=>exact q1r h
   | inr d'=>exact h
theorem q91 {σ δ:Type} {f:σ→Option (σ ⊕ δ)} {d:δ} {n m:Nat} {s:σ} (hm:n≤m) (h:itF f n s=some d):itF f m s=some d:=by
 induction hm with
 | refl=>exact h
 | step _ ih=>exact q1r ih
open Classical in
noncomputable def itO {σ δ:Type} (f:σ→Option (σ ⊕ δ)) (s:σ):Option δ:=
 if h:∃ d n,itF f n s=some d then some (Classical.choose h) else none
theorem qr5 {σ δ:Type} {f:σ→Option (σ ⊕ δ)} {s:σ} {d:δ}:itO f s=some d↔∃ n,itF f n s=some d:=by
 unfold itO
 constructor
 ·intro h
  split at h
  ·rename_i hh; cases h; exact Classical.choose_spec hh
  ·cases h
 ·rintro ⟨n,hn⟩
  have hh:∃ d n,itF f n s=some d:=⟨d,n,hn⟩
  rw [dif_pos hh]
  obtain ⟨m,hm⟩:=Classical.choose_spec hh
  have h1:=q91 (Nat.le_max_left n m) hn
  have h2:=q91 (Nat.le_max_right n m) hm
  rw [h1] at h2
  exact h2.symm
theorem qc7 {σ δ:Type} {f:σ→Option (σ ⊕ δ)} {s s':σ} (h:f s=some (.inl s')):itO f s=itO f s':=by
 jh Option.ext
 intro d
 rw [qr5,qr5]
 constructor
 ·rintro ⟨n,hn⟩
  cases n with
  | zero=>cases hn
  | succ n=>rw [itF,h] at hn; exact ⟨n,hn⟩
 ·rintro ⟨n,hn⟩
  exact ⟨n + 1,by rw [itF,h]; exact hn⟩
theorem ki {σ δ:Type} {f:σ→Option (σ ⊕ δ)} {s:σ} {d:δ} (h:f s=some (.inr d)):itO f s=some d:=
 qr5.2 ⟨1,by rw [itF,h]⟩
theorem q4v {α γ σ δ ε:Type} (l:List α) (f:σ→Option (σ ⊕ δ)) (mk:Nat→γ→σ) (g:Nat→γ→α→γ ⊕ ε) (En:γ→δ) (Ex:ε→δ) (Inv:Nat→γ→Prop)
  (hend:∀ s,Inv l.length s→f (mk l.length s)=some (.inr (En s)))
  (hstep:∀ i s x,l[i]?=some x→i < l.length→Inv i s→match g i s x with
   | .inl s'=>Inv (i + 1) s'∧f (mk i s)=some (.inl (mk (i + 1) s'))
   | .inr d=>f (mk i s)=some (.inr (Ex d))):
  ∀ (k i:Nat) (s:γ),i + k=l.length→Inv i s→itO f (mk i s)=some (match qyb g i s (l.drop i) with
   | .inl s=>En s
   | .inr d=>Ex d)
 | 0,i,s,hi,hv=>by
  have hi':i=l.length:=by omega
  subst hi'
  rw [List.drop_eq_nil_of_le (Nat.le_refl _),ki (hend s hv)]
  rfl
 | k + 1,i,s,hi,hv=>by
  obtain ⟨x,hx⟩:∃ x,l[i]?=some x:=⟨_,List.getElem?_eq_getElem (by omega)⟩
  have hs:=hstep i s x hx (by omega) hv
  rw [qbf hx]
  simp only [qyb]
  cases hg:g i s x with
  | inl s'=>
   rw [hg] at hs
   obtain ⟨hv',h1⟩:=hs
   rw [qc7 h1]
   exact q4v l f mk g En Ex Inv hend hstep k (i + 1) s' (by omega) hv'
  | inr d=>
   rw [hg] at hs
   rw [ki hs]
theorem q0o {α γ σ δ ε:Type} (l:List α) (f:σ→Option (σ ⊕ δ)) (mk:Nat→γ→σ) (g:Nat→γ→α→γ ⊕ ε) (En:γ→δ) (Ex:ε→δ) (Inv:Nat→γ→Prop) (s:γ)
  (hend:∀ s,Inv l.length s→f (mk l.length s)=some (.inr (En s)))
  (hstep:∀ i s x,l[i]?=some x→i < l.length→Inv i s→match g i s x with
   | .inl s'=>Inv (i + 1) s'∧f (mk i s)=some (.inl (mk (i + 1) s'))
   | .inr d=>f (mk i s)=some (.inr (Ex d))) (hv:Inv 0 s):
  itO f (mk 0 s)=some (match qyb g 0 s l with
   | .inl s=>En s
   | .inr d=>Ex d):=by
 have:=q4v l f mk g En Ex Inv hend hstep l.length 0 s (by omega) hv
 rwa [List.drop_zero] at this
theorem qxj {α ε:Type} (l:List α) (f:Int→Option (Int ⊕ (ε ⊕ Int))) (P:Nat→α→Prop)
  (hend:f (l.length:Int)=some (.inr (.inr (l.length:Int))))
  (hstep:∀ (i:Nat) (x:α),l[i]?=some x→(f (i:Int)=some (.inl ((i + 1:Nat):Int))∧P i x)∨∃ e,f (i:Int)=some (.inr (.inl e))):
  (∃ e,itO f 0=some (.inl e))∨(itO f 0=some (.inr (l.length:Int))∧∀ (i:Nat) (x:α),l[i]?=some x→P i x):=by
 have key:∀ (k i:Nat),i + k=l.length→(∀ (j:Nat) (x:α),j < i→l[j]?=some x→P j x) →
   (∃ e,itO f (i:Int)=some (.inl e))∨(itO f (i:Int)=some (.inr (l.length:Int))∧∀ (i:Nat) (x:α),l[i]?=some x→P i x):=by
  intro k
  induction k with
  | zero=>
   intro i hi hp
   have:i=l.length:=by omega
   subst this
   exact .inr ⟨ki hend,fun j x hx=>hp j x (List.getElem?_eq_some_iff.1 hx).1 hx⟩
  | succ k ih=>
   intro i hi hp
   obtain ⟨x,hx⟩:∃ x,l[i]?=some x:=⟨_,List.getElem?_eq_getElem (by omega)⟩
   rcases hstep i x hx with ⟨h1,h2⟩ | ⟨e,h1⟩
   ·rw [qc7 h1]
    refine ih (i + 1) (by omega) fun j y hj hy=>?_
    by_cases hji:j=i
    ·subst hji; rw [hx] at hy; cases hy; exact h2
    ·exact hp j y (by omega) hy
   ·exact .inl ⟨e,ki h1⟩
 exact key l.length 0 (by omega) fun j x hj=>absurd hj (by omega)
theorem je3 {ε:Type} (n:Nat) (f:Int→Option (Int ⊕ (ε ⊕ Int))) (hend:f (n:Int)=some (.inr (.inr (n:Int)))) (hstep:∀ i:Nat,i < n→f (i:Int)=some (.inl ((i + 1:Nat):Int))):itO f 0=some (.inr (n:Int)):=by
 have hl:(List.range n).length=n:=List.length_range
 rcases qxj (List.range n) f (fun _ _=>True) (by rw [hl]; exact hend) (fun i x hx=>.inl ⟨hstep i (by have:=(List.getElem?_eq_some_iff.1 hx).1; omega),trivial⟩) with ⟨e,he⟩ | ⟨h,_⟩
 ·exfalso
  have key:∀ (k i:Nat),i + k=n→itO f (i:Int)=some (.inr (n:Int)):=by
   intro k
   induction k with
   | zero=>
    intro i hi
    have:i=n:=by omega
    subst this
    exact ki hend
   | succ k ih=>intro i hi; rw [qc7 (hstep i (by omega))]; exact ih (i + 1) (by omega)
  have:=key n 0 (by omega)
  rw [Int.natCast_zero,he] at this
  cases this
 ·rw [h,hl]
def jy {σ δ:Type} (p:jw) (c:ACode) (St:σ→ASt) (Ex:δ→jd × ASt) (s:σ) (r:σ ⊕ δ):Prop:=match r with
 | .inl s'=>∃ st',X p c (St s)=some (.normal,st')∧gc (St s).heap.length st'=St s'
 | .inr d=>X p c (St s)=some (Ex d)
theorem qdg {σ δ:Type} {p:jw} {c:ACode} {St:σ→ASt} {Ex:δ→jd × ASt} {s s':σ} {st':ASt} (hx:X p c (St s)=some (.normal,st')) (hc:gc (St s).heap.length st'=St s'):jy p c St Ex s (.inl s'):=⟨st',hx,hc⟩
theorem jb {σ δ:Type} {p:jw} {c:ACode} {St:σ→ASt} {Ex:δ→jd × ASt} {s:σ} {d:δ} (hx:X p c (St s)=some (Ex d)):jy p c St Ex s (.inr d):=hx
theorem jh4 {σ δ:Type} {p:jw} {c:ACode} {St:σ→ASt} {Ex:δ→jd × ASt} {f:σ→Option (σ ⊕ δ)} (hb:∀ s r,f s=some r→jy p c St Ex s r) (hX:∀ d,(Ex d).1 ≠ .normal) {d:δ}:
  ∀ {n:Nat} {s:σ},itF f n s=some d→X p (.loop c) (St s)=some (Ex d)
 | 0,_,h=>by cases h
 | n + 1,s,h=>by
  rw [itF] at h
  rw [jle]
  cases hf:f s with
  | none=>rw [hf] at h; cases h
  | some x=>
   rw [hf] at h
   have hs:=hb s x hf
   cases x with
   | inl s'=>
    obtain ⟨st',h1,h2⟩:=hs
    rw [h1,q08,h2]
    exact jh4 hb hX h
   | inr d'=>
    cases h
    rw [show X p c (St s)=some (Ex d) from hs,q9i (hX d)]
theorem zf {σ δ:Type} {p:jw} {c:ACode} {St:σ→ASt} {Ex:δ→jd × ASt} {f:σ→Option (σ ⊕ δ)} (hb:∀ s r,f s=some r→jy p c St Ex s r) (hX:∀ d,(Ex d).1 ≠ .normal) {s:σ} {d:δ} (h:itO f s=some d):X p (.loop c) (St s)=some (Ex d):=by
 obtain ⟨n,hn⟩:=qr5.1 h
 exact jh4 hb hX hn
section
variable {h0:Nat} {al:Option (List Nat)} {h:qf} {α:Type}
def qw (l:List α) (i:Int):Option α:=if 0≤i then l[i.toNat]? else none
theorem jer {l:List α} {i:Nat}:qw l (i:Int)=l[i]?:=by simp [qw]
theorem zj {z:Nat} {f:α→AVal} {l:Option (List α)} {k:IntKind} {i:Int} {x:α} (hx:qw (l.getD []) i=some x):qbd z h (some (sl z f l)) (some (.int k i))=some ⟨.vptr (f x),false,none,h⟩:=by
 unfold qw at hx
 by_cases hi:0≤i
 ·rw [if_pos hi] at hx
  obtain ⟨n,rfl⟩:∃ n:Nat,i=(n:Int):=⟨i.toNat,by omega⟩
  exact js3 (by simpa using hx)
 ·rw [if_neg hi] at hx; cases hx
theorem jeq {s:List UInt8} {k:IntKind} {i:Int} {c:UInt8} (hx:qw s i=some c):qgr h (some (.str s)) (some (.int k i))=some ⟨.int .u8 (c.toNat:Int),false,none,h⟩:=by
 unfold qw at hx
 by_cases hi:0≤i
 ·rw [if_pos hi] at hx
  obtain ⟨n,rfl⟩:∃ n:Nat,i=(n:Int):=⟨i.toNat,by omega⟩
  exact ja8 (by simpa using hx)
 ·rw [if_neg hi] at hx; cases hx
end
section
variable {h:qf}
end
section
variable {p:jw} {xc:XC} {h0:Nat} {al:Option (List Nat)} {e:Env} {h:qf}
def j0j (k:IntKind) (h:qf) (x:Option AVal):Option ORes:=match x with
 | some (.int _ n)=>val h (.int k (qe k n))
 | _=>none
@[go_sem] theorem j6d {k k':IntKind} {n:Int}:j0j k h (some (.int k' n))=some ⟨.int k (qe k n),false,none,h⟩:=rfl
def q0p (h:qf) (x:Option AVal):Option ORes:=match x with
 | some (.str s)=>val h (.str s)
 | some (.int _ n)=>val h (.str (Utf8.encode n).data.toList)
 | _=>none
@[go_sem] theorem jo4 {k:IntKind} {n:Int}:q0p h (some (.int k n))=some ⟨.str (Utf8.encode n).data.toList,false,none,h⟩:=rfl
@[go_sem] theorem jmm {s:List UInt8}:q0p h (some (.str s))=some ⟨.str s,false,none,h⟩:=rfl
def qht (h:qf) (x:Option AVal):Option ORes:=match x with
 | some (.ptr b o)=>val h (.ptr b o)
 | some (.vptr v)=>val h (.vptr v)
 | some (.fn (.func f) a b)=>val h (.fn (.func f) a b)
 | _=>none
@[go_sem] theorem jnz {b o:Nat}:qht h (some (.ptr b o))=some ⟨.ptr b o,false,none,h⟩:=rfl
@[go_sem] theorem jlz {v:AVal}:qht h (some (.vptr v))=some ⟨.vptr v,false,none,h⟩:=rfl
@[go_sem] theorem jtv {f:Nat} {a b:List AVal}:qht h (some (.fn (.func f) a b))=some ⟨.fn (.func f) a b,false,none,h⟩:=rfl
@[go_sem] theorem j02 {x:qq}:qg p xc h0 al e h (.nilCheck x)=qht h (qj e x):=by
 simp only [qg,qp,qht]; rfl
def q14 (agg:Bool) (off n:Nat) (h:qf) (x:Option AVal):Option ORes:=match x with
 | some (.agg cs)=>qa5 h (Go.Abs.part agg cs off n)
 | _=>none
@[go_sem] theorem jvg {agg:Bool} {off n:Nat} {cs:List AVal}:q14 agg off n h (some (.agg cs))=qa5 h (Go.Abs.part agg cs off n):=rfl
@[go_sem] theorem zg8 {agg:Bool} {off n:Nat} {x:qq}:qg p xc h0 al e h (.field agg off n x)=q14 agg off n h (qj e x):=by
 simp only [qg,qp,q14]
 cases qj e x with
 | none=>rfl
 | some v=>cases v <;> rfl
def zhe (agg:Bool) (len n:Nat) (h:qf) (x i:Option AVal):Option ORes:=match x,i with
 | some (.agg cs),some j=>(match idx len j with
  | some j=>qa5 h (Go.Abs.part agg cs (j * n) n)
  | none=>none)
 | _,_=>none
end
section
variable {p:jw} {xc:XC} {h0:Nat} {al:Option (List Nat)} {e:Env} {h:qf} {α:Type}
def qjv (n dflt:Nat):Option Int→Option Nat
 | none=>some dflt
 | some i=>if 0≤i∧i≤n then some i.toNat else none
def q81 (s:List α) (lo hi:Option Int):Option (List α):=match qjv s.length s.length hi with
 | some j=>(match qjv j 0 lo with
  | some i=>some ((s.take j).drop i)
  | none=>none)
 | none=>none
def qj8 (o:Option (List α)) (lo hi:Option Int):Option (Option (List α)):=match q81 (o.getD []) lo hi with
 | some l=>some (o.map fun _=>l)
 | none=>none
def qi8 (dflt n:Nat):Option (Option AVal)→Option Nat
 | none=>some dflt
 | some (some v)=>qne n v
 | some none=>none
theorem jw5 {dflt n:Nat} {x:Option qq}:bnd e dflt n x=qi8 dflt n (x.map (qj e)):=by
 cases x with
 | none=>rfl
 | some x=>simp only [bnd,Option.map_some,qi8]; cases qj e x <;> rfl
theorem jlk {n d:Nat} {k:IntKind} {i:Int}:qne n (.int k i)=qjv n d (some i):=by
 unfold qne qjv
 cases i with
 | ofNat m=>
  simp only []
  by_cases hm:m≤n
  ·rw [if_pos ⟨by simp,by simpa using hm⟩,Nat.ble_eq_true_of_le hm]; rfl
  ·rw [if_neg (by simp; omega)]
   cases hb:Nat.ble m n with
   | true=>exact absurd (Nat.le_of_ble_eq_true hb) hm
   | false=>rfl
 | negSucc m=>simp
def jc9 (k:IntKind):Option Int→Option (Option AVal)
 | none=>none
 | some i=>some (some (.int k i))
theorem jba {d n:Nat} {k:IntKind} {x:Option Int}:qi8 d n (jc9 k x)=qjv n d x:=by
 cases x with
 | none=>rfl
 | some i=>exact jlk
def qfm (sz:Nat) (h:qf) (x:Option AVal) (lo hi:Option (Option AVal)):Option ORes:=match x with
 | some (.list n sz' xs)=>bif Nat.beq sz sz' || xs.isEmpty then (match qi8 xs.length xs.length hi with
  | some j=>(match qi8 0 j lo with
   | some i=>val h (.list n sz' ((xs.take j).drop i))
   | none=>none)
  | none=>none) else none
 | some (.ms b o len)=>(match qi8 len len hi with
  | some j=>(match qi8 0 j lo with
   | some i=>bif Nat.beq i 0 || Nat.blt i j then val h (.ms b (o + i * sz) (j - i)) else none
   | none=>none)
  | none=>none)
 | some (.vref b ver len)=>(match qi8 len len hi with
  | some j=>(match qi8 0 j lo with
   | some i=>bif Nat.beq i 0 then val h (.vref b ver j) else none
   | none=>none)
  | none=>none)
 | _=>none
attribute [go_sem] Option.map_some Option.map_none
@[go_sem] theorem zgs {sz:Nat} {x:qq} {lo hi:Option qq}:qg p xc h0 al e h (.slice sz x lo hi)=qfm sz h (qj e x) (lo.map (qj e)) (hi.map (qj e)):=by
 simp only [qg,qp,qfm,jw5]
 cases qj e x with
 | none=>rfl
 | some v=>cases v <;> rfl
theorem jx1 {z:Nat} {k k':IntKind} {f:α→AVal} {o v:Option (List α)} {lo hi:Option Int} (hv:qj8 o lo hi=some v):qfm z h (some (sl z f o)) (jc9 k lo) (jc9 k' hi)=some ⟨sl z f v,false,none,h⟩:=by
 unfold qj8 q81 at hv
 cases o with
 | none=>
  simp only [sl,qfm,List.isEmpty_nil,Bool.or_true,cond_true,jba]
  simp only [Option.getD_none] at hv
  cases h1:qjv ([]:List α).length ([]:List α).length hi with
  | none=>rw [h1] at hv; cases hv
  | some j=>
   rw [h1] at hv
   simp only [] at hv
   cases h2:qjv j 0 lo with
   | none=>rw [h2] at hv; cases hv
   | some i=>
    rw [h2] at hv
    cases hv
    simp only [List.length_nil] at h1
    simp only [List.length_nil,h1,h2,List.take_nil,List.drop_nil]
    rfl
 | some l=>
  simp only [sl,qfm,qsd,decide_true,Bool.true_or,cond_true,jba,List.length_map]
  simp only [Option.getD_some] at hv
  cases h1:qjv l.length l.length hi with
  | none=>rw [h1] at hv; cases hv
  | some j=>
   rw [h1] at hv
   simp only [] at hv
   cases h2:qjv j 0 lo with
   | none=>rw [h2] at hv; cases hv
   | some i=>
    rw [h2] at hv
    cases hv
    simp only [h2,val,Option.map_some,List.map_drop,List.map_take]
theorem jkv {z:Nat} {k:IntKind} {f:α→AVal} {o v:Option (List α)} {hi:Int} (hv:qj8 o none (some hi)=some v):qfm z h (some (sl z f o)) none (some (some (.int k hi)))=some ⟨sl z f v,false,none,h⟩:=jx1 (k:=k) hv
end
section
variable {h:qf} {α:Type}
def apS (o:Option (List α)) (ys:List α):Option (List α):=match o,ys with
 | none,[]=>none
 | o,ys=>some (o.getD []++ys)
def apO (o:Option (List α)) (ys:List α):Option (Option (List α)):=if (o.getD []).length + ys.length≤1073741824 then some (apS o ys) else none
theorem qx0 {z b:Nat} {own:Option Nat} {f:α→AVal} {o:Option (List α)} {ys:List α} {v:Option (List α)} {y:AVal} (hz:0 < z) (hb:b≤4096) (hy:zp z y=some (ys.map f)) (hv:apO o ys=some v)
  (ho:o=none∨own.isSome=true):appR z b h own (some (sl z f o)) (some y)=some ⟨sl z f v,true,own,h⟩:=by
 unfold apO at hv
 by_cases hl:(o.getD []).length + ys.length≤1073741824
 ·rw [if_pos hl] at hv; cases hv
  cases o with
  | none=>
   simp only [sl,appR,appR.appS,hy,ifR,Bool.true_or,List.isEmpty_nil,Bool.and_true,Bool.or_true,List.length_nil,List.length_map,qa1,qdx,hz,hb,decide_true]
   simp only [Option.getD_none,List.length_nil] at hl
   simp only [hl,decide_true,Bool.and_self,Bool.or_true]
   cases ys with
   | nil=>rfl
   | cons y ys=>simp [qf3,apS,sl]
  | some l=>
   have ho':own.isSome=true:=by rcases ho with h | h; cases h; exact h
   simp only [sl,appR,appR.appS,hy,ifR,ho',Bool.or_true,qsd,qa1,qdx,hz,hb,decide_true,Bool.true_or,List.length_map]
   simp only [Option.getD_some] at hl
   simp only [hl,decide_true,Bool.and_self]
   simp [qf3,apS,sl]
 ·rw [if_neg hl] at hv; cases hv
theorem jg8 {z b t:Nat} {f:α→AVal} {o o2 v:Option (List α)} (hv:apO o (o2.getD [])=some v):appR (z + 1) b h (some t) (some (sl (z + 1) f o)) (some (sl (z + 1) f o2))=ifR (decide (b≤4096)) (some ⟨sl (z + 1) f v,true,some t,h⟩):=by
 by_cases hb:b≤4096
 ·rw [qx0 (by omega) hb q16 hv (.inr rfl)]; simp [ifR,hb]
 ·have hb':decide (b≤4096)=false:=by simp [hb]
  rw [hb']
  cases o with
  | none=>simp [sl,appR,appR.appS,ifR,hb,qa1]; split <;> rfl
  | some l=>simp [sl,appR,appR.appS,ifR,hb,qa1]; split <;> rfl
theorem qe9 {z b t:Nat} {f:α→AVal} {x:α} {y:AVal} {o v:Option (List α)} (hz:0 < z) (hy:zp z y=some [f x]) (hv:apO o [x]=some v):appR z b h (some t) (some (sl z f o)) (some y)=ifR (decide (b≤4096)) (some ⟨sl z f v,true,some t,h⟩):=by
 by_cases hb:b≤4096
 ·rw [qx0 hz hb hy hv (.inr rfl)]; simp [ifR,hb]
 ·have hb':decide (b≤4096)=false:=by simp [hb]
  rw [hb']
  cases o with
  | none=>simp [sl,appR,appR.appS,ifR,hb,hy,qa1]
  | some l=>simp [sl,appR,appR.appS,ifR,hb,hy,qa1]
theorem q9t {z b t:Nat} {f:α→AVal} {o2 v:Option (List α)} (hv:apO (some []) (o2.getD [])=some v):appR (z + 1) b h (some t) (some (.list false (z + 1) [])) (some (sl (z + 1) f o2))=ifR (decide (b≤4096)) (some ⟨sl (z + 1) f v,true,some t,h⟩):=
 jg8 (o:=some []) hv
end
def ye (s:List UInt8):AVal:=.str s
@[go_sem] theorem jw4 {h0:Nat} {al:Option (List Nat)} {h:qf} {b:List UInt8}:yr h0 al false 1 h (some (.vptr (ye b)))=some ⟨.str b,false,none,h⟩:=rfl
@[go_sem] theorem jxz {n z:Nat} {l:Option (List (List UInt8))}:below n (sl z ye l)=true:=qcn fun _=>rfl
theorem q7y {b t:Nat} {h:qf} {bb:Bool} {x:Int} {o v:Option (List Int)} (hv:apO o [x]=some v):appR 1 b h (some t) (some (sl 1 zw o)) (some (.list bb 1 [.int .i64 x]))=ifR (decide (b≤4096)) (some ⟨sl 1 zw v,true,some t,h⟩):=qe9 (by omega) rfl hv
theorem q8n {b t:Nat} {h:qf} {bb:Bool} {x:List UInt8} {o v:Option (List (List UInt8))} (hv:apO o [x]=some v):appR 1 b h (some t) (some (sl 1 ye o)) (some (.list bb 1 [.str x]))=ifR (decide (b≤4096)) (some ⟨sl 1 ye v,true,some t,h⟩):=qe9 (by omega) rfl hv
theorem qw3 {p:jw} {xc:XC} {k:Nat} {args:List AVal} {v v':AVal} {o:Bool} {h:qf} (hp:p.prims k=none) (hc:qn p xc k args []=some (v,o,h)) (hz:freezeR h v=some v') (hv:below 0 v'=true) (hl:v.isList=true):qc p xc k args=some (v',o):=by
 rw [zu hp hc hz hv,hl,Bool.and_true]
section
variable {p:jw} {xc:XC} {h0:Nat} {al:Option (List Nat)} {e:Env} {h:qf} {α:Type}
def qg6 (h0 r sz bytes:Nat) (zero:List AVal) (h:qf) (n c:Option AVal):Option ORes:=match n,c with
 | some (.int .i64 (.ofNat n)),some (.int .i64 (.ofNat c))=>
  bif Nat.beq n c && Nat.ble n 1073741824 && Nat.ble bytes 4096 && Nat.beq zero.length sz && Nat.blt 0 sz && zero.all ql then
   (match newBox h0 h r (.cells (cellsOf (List.replicate n zero).flatten)) with
    | some h'=>val h' (.ms (h0 + r) 0 n)
    | none=>none) else none
 | _,_=>none
@[go_sem] theorem zgg {r sz b:Nat} {z:List AVal} {n c:qq}:qg p xc h0 al e h (.mkslice (some r) sz b z n c)=qg6 h0 r sz b z h (qj e n) (qj e c):=by
 simp only [qg,qr,qg6]
 rfl
def qnk (h0 r sz bytes:Nat) (h:qf) (own:Option Nat) (x y:Option AVal):Option ORes:=match x,y with
 | some (.list false sz' []),some vy=>
  bif own.isSome && Nat.beq sz sz' then
   (match zp sz vy with
    | some ys=>
     bif Nat.ble ys.length 1073741824 && Nat.ble bytes 4096 && Nat.blt 0 sz then
      (match newBox h0 h r (.cells (cellsOf (ys.flatMap AVal.flat))) with
       | some h'=>some ⟨.ms (h0 + r) 0 ys.length,false,own,h'⟩
       | none=>none)
     else none
    | none=>none)
  else none
 | _,_=>none
@[go_sem] theorem j6m {r sz b:Nat} {x y:qq}:qg p xc h0 al e h (.append (some r) sz b x y)=qnk h0 r sz b h (zm e x) (qj e x) (qj e y):=by
 simp only [qg,qr,qnk]
 rfl
def jss (own:Option Nat) (v:AVal) (r:Option qf):Option ORes:=match r with
 | some h'=>some ⟨v,false,own,h'⟩
 | none=>none
@[go_sem] theorem jtt {own:Option Nat} {v:AVal}:jss own v (some h)=some ⟨v,false,own,h⟩:=rfl
def q6f (c:Option (List (AVal × Bool))) (off len:Nat):Option AVal:=match c with
 | some cs=>bif qw8 off len cs then some (.list false (cs.length / len) (qbs (cs.length / len) len (cs.map (·.1)))) else (match zh cs off len with
  | some vs=>some (.list false 1 vs)
  | none=>none)
 | none=>none
@[go_sem] theorem qix {b o n:Nat}:freezeR h (.ms b o n)=q6f (ju h b) o n:=by
 simp only [freezeR,kf,q6f]; rfl
@[go_sem] theorem j4x {z:Nat} {f:α→AVal} {o:Option (List α)}:q3b 0 false h (some (sl z f o))=some ⟨.bool o.isNone,false,none,h⟩:=by cases o <;> rfl
theorem qcr {z b:Nat} {f:α→AVal} {x:α} {y:AVal} {o v:Option (List α)} (hz:0 < z) (hy:zp z y=some [f x]) (hn:o.isNone=true) (hv:apO o [x]=some v):appR z b h none (some (sl z f o)) (some y)=ifR (decide (b≤4096)) (some ⟨sl z f v,true,none,h⟩):=by
 cases o with
 | some l=>cases hn
 | none=>
  by_cases hb:b≤4096
  ·rw [qx0 hz hb hy hv (.inl rfl)]; simp [ifR,hb]
  ·have hb':decide (b≤4096)=false:=by simp [hb]
   rw [hb']
   simp [sl,appR,appR.appS,ifR,hb,hy,qa1]
theorem q79 {b:Nat} {bb:Bool} {x:Int} {o v:Option (List Int)} (hv:apO o [x]=some v) (hn:o.isNone=true):appR 1 b h none (some (sl 1 zw o)) (some (.list bb 1 [.int .i64 x]))=ifR (decide (b≤4096)) (some ⟨sl 1 zw v,true,none,h⟩):=qcr (by omega) rfl hn hv
attribute [go_sem] Nat.le_refl
end
@[go_sem] theorem zid {h:qf} {a b c d:Int}:q2w [.int,.int] true h (some (.agg [.int .i64 a,.int .i64 b])) (some (.agg [.int .i64 c,.int .i64 d]))=some ⟨.bool (!(decide (a=c) && decide (b=d))),false,none,h⟩:=by
 show (match z7 [.int,.int] [.int .i64 a,.int .i64 b] [.int .i64 c,.int .i64 d] with | some t=>val h (.bool (bif true then !t else t)) | none=>none)=_
 have:z7 [.int,.int] [.int .i64 a,.int .i64 b] [.int .i64 c,.int .i64 d]=some (decide (a=c) && decide (b=d)):=by
  have e:∀ x y:Int,(x == y)=decide (x=y):=fun x y=>by by_cases h:x=y <;> simp [h]
  simp only [z7,qbb,e,decide_true,cond_true]
  by_cases h1:a=c <;> by_cases h2:b=d <;> simp [h1,h2]
 rw [this]
 rfl
section
variable {p:jw} {xc:XC} {h0:Nat} {al:Option (List Nat)} {e:Env} {h:qf}
end
noncomputable def qcy (p:jw) (more:qig) (op:Nat→Bool):jw:={ fns:=p.fns,sprims:=p.sprims,maps:=p.maps,prims:=fun k=>bif op k then none else match more k with
 | some f=>some f
 | none=>bif (p.fns k).isSome || (p.prims k).isSome || (p.sprims k).isSome then some fun args=>qc p (X p) k args else none }
theorem qzp {p:jw} {xc:XC} {k:Nat} {args:List AVal} {r:AVal × Bool} (h:qc p xc k args=some r):((p.fns k).isSome || (p.prims k).isSome || (p.sprims k).isSome)=true:=by
 unfold qc at h
 split at h
 ·rename_i f hf; simp [hf]
 ·split at h
  ·rename_i hc
   unfold qn at hc
   split at hc
   ·rename_i f hf; simp [hf]
   ·split at hc
    ·rename_i f hf; simp [hf]
    ·cases hc
  ·cases h
theorem q7w {p:jw} {more:qig} {op:Nat→Bool} {k:Nat} (ho:op k=false) (hm:more k=none) {xc:XC} {args:List AVal} {v:AVal} {o:Bool} (h:qc p (X p) k args=some (v,o)) (hv:qcx v=true):qc (qcy p more op) xc k args=some (v,o):=by
 have hk:=qzp h
 unfold qc
 have:(qcy p more op).prims k=some fun args=>qc p (X p) k args:=by simp only [qcy,ho,cond_false,hm,hk,cond_true]
 rw [this]
 simp only [h,hv,cond_true]
theorem q66 {p:jw} {more:qig} {op:Nat→Bool} {k:Nat} {f:List AVal→Option (AVal × Bool)} (ho:op k=false) (hm:more k=some f) {xc:XC} {args:List AVal} {v:AVal} {o:Bool} (h:f args=some (v,o)) (hv:qcx v=true):qc (qcy p more op) xc k args=some (v,o):=by
 unfold qc
 have:(qcy p more op).prims k=some f:=by simp only [qcy,ho,cond_false,hm]
 rw [this]
 simp only [h,hv,cond_true]
theorem jed {P:Program} {p:jw} {more:qig} {op:Nat→Bool} (hp:ProgOk P p) (hm:∀ k f,more k=some f→Enters P k∧∀ args v o,f args=some (v,o)→qcx v=true→ja 0 args=true→IsoCall P k args v o):ProgOk P (qcy p more op) where
 fn:=hp.fn
 maps:=hp.maps
 prim:=by
  intro k f hf
  cases ho:op k with
  | true=>
   have:(qcy p more op).prims k=none:=by simp only [qcy,ho,cond_true]
   rw [this] at hf; cases hf
  | false=>
  cases hmk:more k with
  | some g=>
   have:(qcy p more op).prims k=some g:=by simp only [qcy,ho,cond_false,hmk]
   rw [this] at hf
   cases hf
   exact hm k _ hmk
  | none=>
   cases hk:((p.fns k).isSome || (p.prims k).isSome || (p.sprims k).isSome) with
   | false=>
    have:(qcy p more op).prims k=none:=by simp only [qcy,ho,hmk,hk,cond_false]
    rw [this] at hf; cases hf
   | true=>
    have:(qcy p more op).prims k=some fun args=>qc p (X p) k args:=by simp only [qcy,ho,cond_false,hmk,hk,cond_true]
    rw [this] at hf
    cases hf
    refine ⟨?_,fun args v o h _ hb=>q1o hp h hb⟩
    simp only [Bool.or_eq_true] at hk
    rcases hk with (h | h) | h
    ·obtain ⟨af,ha⟩:=Option.isSome_iff_exists.1 h
     exact hp.enters ha
    ·obtain ⟨g,hg⟩:=Option.isSome_iff_exists.1 h
     exact (hp.prim k g hg).1
    ·obtain ⟨g,hg⟩:=Option.isSome_iff_exists.1 h
     exact (hp.sprim k g hg).1
 mixed:=hp.mixed
 sprim:=hp.sprim
theorem yl {i:Nat} (h:i < 9223372036854775807):qe .i64 ((i:Int) + 1)=((i + 1:Nat):Int):=by
 rw [qyz (by omega) (by omega)]; rfl
variable {h:qf}
theorem jsh {b pos:Nat} {s:List UInt8} (hp:decide (pos < s.length)=true):qhg h b (some (.iter s pos))=qbo (jt h b (.iter s (pos + (qo s pos).2))) (.tup [.bool true,.int .i64 pos,.int .i32 (qo s pos).1]):=jdj (of_decide_eq_true hp)
theorem jr2 {b pos:Nat} {s:List UInt8} (hp:decide (pos < s.length)=false):qhg h b (some (.iter s pos))=some ⟨.tup [.bool false],false,none,h⟩:=q9e (of_decide_eq_false hp)
end Go.Z
