/- Functions in Option that mirror the machine's runs. -/
import Derived.Test.YtfopaakmgogpiaaGreatDoorL1
import Derived.Test.YtfopaakmgogpiaaGreatDoorAbsH
set_option linter.unusedVariables false
set_option linter.unusedSimpArgs false
set_option maxRecDepth 100000
namespace Go.Z
open Go Go.Abs
def jy {α β:Type}(x:Option α)(f:α→Option β):Option β:=match x with
 |some a=>f a
 |none=>none
@[simp] theorem qvg {α β:Type}{a:α}{f:α→Option β}:jy (some a) f=f a:=rfl
@[simp] theorem j85 {α β:Type}{f:α→Option β}:jy none f=none:=rfl
theorem jw {α β:Type}{x:Option α}{f:α→Option β}{r:β}(h:jy x f=some r):∃a,x=some a∧f a=some r:=by
 cases x with
 |none=>cases h
 |some a=>exact⟨a,rfl,h⟩
theorem jx {α:Type}{c:Bool}{a b r:α}(h:cond c a b=r):(c=true∧a=r)∨(c=false∧b=r):=by
 cases c
 ·exact .inr ⟨rfl,h⟩
 ·exact .inl ⟨rfl,h⟩
def itF {σ δ:Type}(f:σ→Option (σ⊕δ)):Nat→σ→Option δ
 |0,_=>none
 |n+1,s=>match f s with
  |none=>none
  |some (.inl s')=>itF f n s'
  |some (.inr d)=>some d
theorem q31 {σ δ:Type}{f:σ→Option (σ⊕δ)}{d:δ}:∀ {n:Nat} {s:σ},itF f n s=some d→itF f (n+1) s=some d
 |0,_,h=>by cases h
 |n+1,s,h=>by
  rw[itF]at h ⊢
  cases hf:f s with
  |none=>rw[hf]at h;cases h
  |some x=>
   rw[hf]at h
   cases x with
   |inl s'=>exact q31 h
   |inr d'=>exact h
theorem q97 {σ δ:Type}{f:σ→Option (σ⊕δ)}{d:δ}{n m:Nat}{s:σ}(hm:n≤m)(h:itF f n s=some d):itF f m s=some d:=by
 induction hm with
 |refl=>exact h
 |step _ ih=>exact q31 ih
open Classical in
noncomputable def itO {σ δ:Type}(f:σ→Option (σ⊕δ))(s:σ):Option δ:=
 if h:∃d n,itF f n s=some d then some (Classical.choose h)else none
theorem qt9 {σ δ:Type}{f:σ→Option (σ⊕δ)}{s:σ}{d:δ}:itO f s=some d↔∃n,itF f n s=some d:=by
 unfold itO
 constructor
 ·intro h
  split at h
  ·rename_i hh;cases h;exact Classical.choose_spec hh
  ·cases h
 ·rintro ⟨n,hn⟩
  have hh:∃d n,itF f n s=some d:=⟨d,n,hn⟩
  rw[dif_pos hh]
  obtain⟨m,hm⟩:=Classical.choose_spec hh
  have h1:=q97 (Nat.le_max_left n m) hn
  have h2:=q97 (Nat.le_max_right n m) hm
  rw[h1]at h2
  exact h2.symm
theorem qfi {σ δ:Type}{f:σ→Option (σ⊕δ)}{s s':σ}(h:f s=some (.inl s')):itO f s=itO f s':=by
 yf Option.ext
 intro d
 rw[qt9,qt9]
 constructor
 ·rintro ⟨n,hn⟩
  cases n with
  |zero=>cases hn
  |succ n=>rw[itF,h]at hn;exact⟨n,hn⟩
 ·rintro ⟨n,hn⟩
  exact⟨n+1,by rw[itF,h];exact hn⟩
theorem qbn {σ δ:Type}{f:σ→Option (σ⊕δ)}{s:σ}{d:δ}(h:f s=some (.inr d)):itO f s=some d:=
 qt9.2 ⟨1,by rw[itF,h]⟩
theorem q6m {α γ σ δ ε:Type}(l:List α)(f:σ→Option (σ⊕δ))(mk:Nat→γ→σ)(g:Nat→γ→α→γ⊕ε)(En:γ→δ)(Ex:ε→δ)(Inv:Nat→γ→Prop)
  (hend:∀s,Inv l.length s→f (mk l.length s)=some (.inr (En s)))
  (hstep:∀i s x,l[i]?=some x→i<l.length→Inv i s→match g i s x with
   | .inl s'=>Inv (i+1) s'∧f (mk i s)=some (.inl (mk (i+1) s'))
   | .inr d=>f (mk i s)=some (.inr (Ex d))):
  ∀(k i:Nat) (s:γ),i+k=l.length→Inv i s→itO f (mk i s)=some (match qyr g i s (l.drop i)with
   | .inl s=>En s
   | .inr d=>Ex d)
 |0,i,s,hi,hv=>by
  have hi':i=l.length:=by omega
  subst hi'
  rw[List.drop_eq_nil_of_le (Nat.le_refl _),qbn (hend s hv)]
  rfl
 |k+1,i,s,hi,hv=>by
  obtain⟨x,hx⟩:∃x,l[i]?=some x:=⟨_,List.getElem?_eq_getElem (by omega)⟩
  have hs:=hstep i s x hx (by omega) hv
  rw[qda hx]
  simp only[qyr]
  cases hg:g i s x with
  |inl s'=>
   rw[hg]at hs
   obtain⟨hv',h1⟩:=hs
   rw[qfi h1]
   exact q6m l f mk g En Ex Inv hend hstep k (i+1) s' (by omega) hv'
  |inr d=>
   rw[hg]at hs
   rw[qbn hs]
theorem q2c {α γ σ δ ε:Type}(l:List α)(f:σ→Option (σ⊕δ))(mk:Nat→γ→σ)(g:Nat→γ→α→γ⊕ε)(En:γ→δ)(Ex:ε→δ)(Inv:Nat→γ→Prop)(s:γ)
  (hend:∀s,Inv l.length s→f (mk l.length s)=some (.inr (En s)))
  (hstep:∀i s x,l[i]?=some x→i<l.length→Inv i s→match g i s x with
   | .inl s'=>Inv (i+1) s'∧f (mk i s)=some (.inl (mk (i+1) s'))
   | .inr d=>f (mk i s)=some (.inr (Ex d))) (hv:Inv 0 s):
  itO f (mk 0 s)=some (match qyr g 0 s l with
   | .inl s=>En s
   | .inr d=>Ex d):=by
 have:=q6m l f mk g En Ex Inv hend hstep l.length 0 s (by omega) hv
 rwa [List.drop_zero]at this
theorem qy5 {α ε:Type}(l:List α)(f:Int→Option (Int⊕(ε⊕Int)))(P:Nat→α→Prop)
  (hend:f (l.length:Int)=some (.inr (.inr (l.length:Int))))
  (hstep:∀(i:Nat) (x:α),l[i]?=some x→(f (i:Int)=some (.inl ((i+1:Nat):Int))∧P i x)∨∃e,f (i:Int)=some (.inr (.inl e))):
  (∃e,itO f 0=some (.inl e))∨(itO f 0=some (.inr (l.length:Int))∧∀(i:Nat) (x:α),l[i]?=some x→P i x):=by
 have key:∀(k i:Nat),i+k=l.length→(∀(j:Nat) (x:α),j<i→l[j]?=some x→P j x) →
   (∃e,itO f (i:Int)=some (.inl e))∨(itO f (i:Int)=some (.inr (l.length:Int))∧∀(i:Nat) (x:α),l[i]?=some x→P i x):=by
  intro k
  induction k with
  |zero=>
   intro i hi hp
   have:i=l.length:=by omega
   subst this
   exact .inr ⟨qbn hend,fun j x hx=>hp j x (List.getElem?_eq_some_iff.1 hx).1 hx⟩
  |succ k ih=>
   intro i hi hp
   obtain⟨x,hx⟩:∃x,l[i]?=some x:=⟨_,List.getElem?_eq_getElem (by omega)⟩
   rcases hstep i x hx with⟨h1,h2⟩|⟨e,h1⟩
   ·rw[qfi h1]
    refine ih (i+1) (by omega) fun j y hj hy=>?_
    by_cases hji:j=i
    ·subst hji;rw[hx]at hy;cases hy;exact h2
    ·exact hp j y (by omega) hy
   ·exact .inl ⟨e,qbn h1⟩
 exact key l.length 0 (by omega) fun j x hj=>absurd hj (by omega)
theorem je9 {ε:Type}(n:Nat)(f:Int→Option (Int⊕(ε⊕Int)))(hend:f (n:Int)=some (.inr (.inr (n:Int))))(hstep:∀i:Nat,i<n→f (i:Int)=some (.inl ((i+1:Nat):Int))):itO f 0=some (.inr (n:Int)):=by
 have hl:(List.range n).length=n:=List.length_range
 rcases qy5 (List.range n) f (fun _ _=>True) (by rw[hl];exact hend) (fun i x hx=>.inl ⟨hstep i (by have:=(List.getElem?_eq_some_iff.1 hx).1;omega),trivial⟩)with⟨e,he⟩|⟨h,_⟩
 ·exfalso
  have key:∀(k i:Nat),i+k=n→itO f (i:Int)=some (.inr (n:Int)):=by
   intro k
   induction k with
   |zero=>
    intro i hi
    have:i=n:=by omega
    subst this
    exact qbn hend
   |succ k ih=>intro i hi;rw[qfi (hstep i (by omega))];exact ih (i+1) (by omega)
  have:=key n 0 (by omega)
  rw[Int.natCast_zero,he]at this
  cases this
 ·rw[h,hl]
def y6 {σ δ:Type}(p:qu)(c:qh)(St:σ→qg)(Ex:δ→qn×qg)(s:σ)(r:σ⊕δ):Prop:=match r with
 | .inl s'=>∃st',X p c (St s)=some (.normal,st')∧gc (St s).heap.length st'=St s'
 | .inr d=>X p c (St s)=some (Ex d)
theorem qfr {σ δ:Type}{p:qu}{c:qh}{St:σ→qg}{Ex:δ→qn×qg}{s s':σ}{st':qg}(hx:X p c (St s)=some (.normal,st'))(hc:gc (St s).heap.length st'=St s'):y6 p c St Ex s (.inl s'):=⟨st',hx,hc⟩
theorem zd {σ δ:Type}{p:qu}{c:qh}{St:σ→qg}{Ex:δ→qn×qg}{s:σ}{d:δ}(hx:X p c (St s)=some (Ex d)):y6 p c St Ex s (.inr d):=hx
theorem jgf {σ δ:Type}{p:qu}{c:qh}{St:σ→qg}{Ex:δ→qn×qg}{f:σ→Option (σ⊕δ)}(hb:∀s r,f s=some r→y6 p c St Ex s r)(hX:∀d,(Ex d).1≠.normal){d:δ}:
  ∀ {n:Nat} {s:σ},itF f n s=some d→X p (.loop c) (St s)=some (Ex d)
 |0,_,h=>by cases h
 |n+1,s,h=>by
  rw[itF]at h
  rw[jjf]
  cases hf:f s with
  |none=>rw[hf]at h;cases h
  |some x=>
   rw[hf]at h
   have hs:=hb s x hf
   cases x with
   |inl s'=>
    obtain⟨st',h1,h2⟩:=hs
    rw[h1,q4c,h2]
    exact jgf hb hX h
   |inr d'=>
    cases h
    rw[show X p c (St s)=some (Ex d)from hs,jbb (hX d)]
theorem km {σ δ:Type}{p:qu}{c:qh}{St:σ→qg}{Ex:δ→qn×qg}{f:σ→Option (σ⊕δ)}(hb:∀s r,f s=some r→y6 p c St Ex s r)(hX:∀d,(Ex d).1≠.normal){s:σ}{d:δ}(h:itO f s=some d):X p (.loop c) (St s)=some (Ex d):=by
 obtain⟨n,hn⟩:=qt9.1 h
 exact jgf hb hX hn
section
variable {h0:Nat}{al:Option (List Nat)}{h:zb}{α:Type}
def zz (l:List α)(i:Int):Option α:=if 0≤i then l[i.toNat]? else none
theorem jdd {l:List α}{i:Nat}:zz l (i:Int)=l[i]?:=by simp[zz]
theorem jz {z:Nat}{f:α→qa}{l:Option (List α)}{k:IntKind}{i:Int}{x:α}(hx:zz (l.getD []) i=some x):qd2 z h (some (sl z f l)) (some (.int k i))=some ⟨.vptr (f x),false,none,h⟩:=by
 unfold zz at hx
 by_cases hi:0≤i
 ·rw[if_pos hi]at hx
  obtain⟨n,rfl⟩:∃n:Nat,i=(n:Int):=⟨i.toNat,by omega⟩
  exact jn4 (by simpa using hx)
 ·rw[if_neg hi]at hx;cases hx
theorem y8 {s:List UInt8}{k:IntKind}{i:Int}{c:UInt8}(hx:zz s i=some c):qpg h (some (.str s)) (some (.int k i))=some ⟨.int .u8 (c.toNat:Int),false,none,h⟩:=by
 unfold zz at hx
 by_cases hi:0≤i
 ·rw[if_pos hi]at hx
  obtain⟨n,rfl⟩:∃n:Nat,i=(n:Int):=⟨i.toNat,by omega⟩
  exact jae (by simpa using hx)
 ·rw[if_neg hi]at hx;cases hx
end
section
variable {h:zb}
end
section
variable {p:qu}{xc:XC}{h0:Nat}{al:Option (List Nat)}{e:Env}{h:zb}
def jw8 (k:IntKind)(h:zb)(x:Option qa):Option qp:=match x with
 |some (.int _ n)=>val h (.int k (j8 k n))
 |_=>none
@[go_sem] theorem j06 {k k':IntKind}{n:Int}:jw8 k h (some (.int k' n))=some ⟨.int k (j8 k n),false,none,h⟩:=rfl
def q2j (h:zb)(x:Option qa):Option qp:=match x with
 |some (.str s)=>val h (.str s)
 |some (.int _ n)=>val h (.str (Utf8.encode n).data.toList)
 |_=>none
@[go_sem] theorem jlw {k:IntKind}{n:Int}:q2j h (some (.int k n))=some ⟨.str (Utf8.encode n).data.toList,false,none,h⟩:=rfl
@[go_sem] theorem joj {s:List UInt8}:q2j h (some (.str s))=some ⟨.str s,false,none,h⟩:=rfl
def qkl (h:zb)(x:Option qa):Option qp:=match x with
 |some (.ptr b o)=>val h (.ptr b o)
 |some (.vptr v)=>val h (.vptr v)
 |some (.fn (.func f) a b)=>val h (.fn (.func f) a b)
 |_=>none
@[go_sem] theorem jm2 {b o:Nat}:qkl h (some (.ptr b o))=some ⟨.ptr b o,false,none,h⟩:=rfl
@[go_sem] theorem jjr {v:qa}:qkl h (some (.vptr v))=some ⟨.vptr v,false,none,h⟩:=rfl
@[go_sem] theorem jpi {f:Nat}{a b:List qa}:qkl h (some (.fn (.func f) a b))=some ⟨.fn (.func f) a b,false,none,h⟩:=rfl
@[go_sem] theorem jqd {x:qf}:j9 p xc h0 al e h (.nilCheck x)=qkl h (zh e x):=by
 simp only[j9,zr,qkl];rfl
def q3n (agg:Bool)(off n:Nat)(h:zb)(x:Option qa):Option qp:=match x with
 |some (.agg cs)=>qcx h (Go.Abs.part agg cs off n)
 |_=>none
@[go_sem] theorem jqz {agg:Bool}{off n:Nat}{cs:List qa}:q3n agg off n h (some (.agg cs))=qcx h (Go.Abs.part agg cs off n):=rfl
@[go_sem] theorem zb9 {agg:Bool}{off n:Nat}{x:qf}:j9 p xc h0 al e h (.field agg off n x)=q3n agg off n h (zh e x):=by
 simp only[j9,zr,q3n]
 cases zh e x with
 |none=>rfl
 |some v=>cases v<;>rfl
def zcr (agg:Bool)(len n:Nat)(h:zb)(x i:Option qa):Option qp:=match x,i with
 |some (.agg cs),some j=>(match idx len j with
  |some j=>qcx h (Go.Abs.part agg cs (j*n) n)
  |none=>none)
 |_,_=>none
end
section
variable {p:qu}{xc:XC}{h0:Nat}{al:Option (List Nat)}{e:Env}{h:zb}{α:Type}
def qm9 (n dflt:Nat):Option Int→Option Nat
 |none=>some dflt
 |some i=>if 0≤i∧i≤n then some i.toNat else none
def q7y (s:List α)(lo hi:Option Int):Option (List α):=match qm9 s.length s.length hi with
 |some j=>(match qm9 j 0 lo with
  |some i=>some ((s.take j).drop i)
  |none=>none)
 |none=>none
def qqo (o:Option (List α))(lo hi:Option Int):Option (Option (List α)):=match q7y (o.getD []) lo hi with
 |some l=>some (o.map fun _=>l)
 |none=>none
def qma (dflt n:Nat):Option (Option qa)→Option Nat
 |none=>some dflt
 |some (some v)=>qq7 n v
 |some none=>none
theorem jtc {dflt n:Nat}{x:Option qf}:bnd e dflt n x=qma dflt n (x.map (zh e)):=by
 cases x with
 |none=>rfl
 |some x=>simp only[bnd,Option.map_some,qma];cases zh e x<;>rfl
theorem jig {n d:Nat}{k:IntKind}{i:Int}:qq7 n (.int k i)=qm9 n d (some i):=by
 unfold qq7 qm9
 cases i with
 |ofNat m=>
  simp only[]
  by_cases hm:m≤n
  ·rw[if_pos ⟨by simp,by simpa using hm⟩,Nat.ble_eq_true_of_le hm];rfl
  ·rw[if_neg (by simp;omega)]
   cases hb:Nat.ble m n with
   |true=>exact absurd (Nat.le_of_ble_eq_true hb) hm
   |false=>rfl
 |negSucc m=>simp
def jcw (k:IntKind):Option Int→Option (Option qa)
 |none=>none
 |some i=>some (some (.int k i))
theorem q9v {d n:Nat}{k:IntKind}{x:Option Int}:qma d n (jcw k x)=qm9 n d x:=by
 cases x with
 |none=>rfl
 |some i=>exact jig
def qi0 (sz:Nat)(h:zb)(x:Option qa)(lo hi:Option (Option qa)):Option qp:=match x with
 |some (.list n sz' xs)=>bif Nat.beq sz sz'||xs.isEmpty then(match qma xs.length xs.length hi with
  |some j=>(match qma 0 j lo with
   |some i=>val h (.list n sz' ((xs.take j).drop i))
   |none=>none)
  |none=>none)else none
 |some (.ms b o len)=>(match qma len len hi with
  |some j=>(match qma 0 j lo with
   |some i=>bif Nat.beq i 0||Nat.blt i j then val h (.ms b (o+i*sz) (j-i))else none
   |none=>none)
  |none=>none)
 |some (.vref b ver len)=>(match qma len len hi with
  |some j=>(match qma 0 j lo with
   |some i=>bif Nat.beq i 0 then val h (.vref b ver j)else none
   |none=>none)
  |none=>none)
 |_=>none
attribute [go_sem] Option.map_some Option.map_none
@[go_sem] theorem zbm {sz:Nat}{x:qf}{lo hi:Option qf}:j9 p xc h0 al e h (.slice sz x lo hi)=qi0 sz h (zh e x) (lo.map (zh e)) (hi.map (zh e)):=by
 simp only[j9,zr,qi0,jtc]
 cases zh e x with
 |none=>rfl
 |some v=>cases v<;>rfl
theorem jvs {z:Nat}{k k':IntKind}{f:α→qa}{o v:Option (List α)}{lo hi:Option Int}(hv:qqo o lo hi=some v):qi0 z h (some (sl z f o)) (jcw k lo) (jcw k' hi)=some ⟨sl z f v,false,none,h⟩:=by
 unfold qqo q7y at hv
 cases o with
 |none=>
  simp only[sl,qi0,List.isEmpty_nil,Bool.or_true,cT,q9v]
  simp only[Option.getD_none]at hv
  cases h1:qm9 ([]:List α).length ([]:List α).length hi with
  |none=>rw[h1]at hv;cases hv
  |some j=>
   rw[h1]at hv
   simp only[]at hv
   cases h2:qm9 j 0 lo with
   |none=>rw[h2]at hv;cases hv
   |some i=>
    rw[h2]at hv
    cases hv
    simp only[List.length_nil]at h1
    simp only[List.length_nil,h1,h2,List.take_nil,List.drop_nil]
    rfl
 |some l=>
  simp only[sl,qi0,qtm,decide_true,Bool.true_or,cT,q9v,List.length_map]
  simp only[Option.getD_some]at hv
  cases h1:qm9 l.length l.length hi with
  |none=>rw[h1]at hv;cases hv
  |some j=>
   rw[h1]at hv
   simp only[]at hv
   cases h2:qm9 j 0 lo with
   |none=>rw[h2]at hv;cases hv
   |some i=>
    rw[h2]at hv
    cases hv
    simp only[h2,val,Option.map_some,List.map_drop,List.map_take]
theorem q54 {z:Nat}{k:IntKind}{f:α→qa}{o v:Option (List α)}{hi:Int}(hv:qqo o none (some hi)=some v):qi0 z h (some (sl z f o)) none (some (some (.int k hi)))=some ⟨sl z f v,false,none,h⟩:=jvs (k:=k) hv
end
section
variable {h:zb}{α:Type}
def apS (o:Option (List α))(ys:List α):Option (List α):=match o,ys with
 |none,[]=>none
 |o,ys=>some (o.getD []++ys)
def apO (o:Option (List α))(ys:List α):Option (Option (List α)):=if(o.getD []).length+ys.length≤1073741824 then some (apS o ys)else none
theorem qzw {z b:Nat}{own:Option Nat}{f:α→qa}{o:Option (List α)}{ys:List α}{v:Option (List α)}{y:qa}(hz:0<z)(hb:b≤4096)(hy:qaa z y=some (ys.map f))(hv:apO o ys=some v)
  (ho:o=none∨own.isSome=true):appR z b h own (some (sl z f o)) (some y)=some ⟨sl z f v,true,own,h⟩:=by
 unfold apO at hv
 by_cases hl:(o.getD []).length+ys.length≤1073741824
 ·rw[if_pos hl]at hv;cases hv
  cases o with
  |none=>
   simp only[sl,appR,appR.appS,hy,ifR,Bool.true_or,List.isEmpty_nil,Bool.and_true,Bool.or_true,List.length_nil,List.length_map,qde,qf3,hz,hb,decide_true]
   simp only[Option.getD_none,List.length_nil]at hl
   simp only[hl,decide_true,Bool.and_self,Bool.or_true]
   cases ys with
   |nil=>rfl
   |cons y ys=>simp[qiq,apS,sl]
  |some l=>
   have ho':own.isSome=true:=by rcases ho with h|h;cases h;exact h
   simp only[sl,appR,appR.appS,hy,ifR,ho',Bool.or_true,qtm,qde,qf3,hz,hb,decide_true,Bool.true_or,List.length_map]
   simp only[Option.getD_some]at hl
   simp only[hl,decide_true,Bool.and_self]
   simp[qiq,apS,sl]
 ·rw[if_neg hl]at hv;cases hv
theorem jcb {z b t:Nat}{f:α→qa}{o o2 v:Option (List α)}(hv:apO o (o2.getD [])=some v):appR (z+1) b h (some t) (some (sl (z+1) f o)) (some (sl (z+1) f o2))=ifR (decide (b≤4096)) (some ⟨sl (z+1) f v,true,some t,h⟩):=by
 by_cases hb:b≤4096
 ·rw[qzw (by omega) hb jay hv (.inr rfl)];simp[ifR,hb]
 ·have hb':decide (b≤4096)=false:=by simp[hb]
  rw[hb']
  cases o with
  |none=>simp[sl,appR,appR.appS,ifR,hb,qde];split<;>rfl
  |some l=>simp[sl,appR,appR.appS,ifR,hb,qde];split<;>rfl
theorem qhn {z b t:Nat}{f:α→qa}{x:α}{y:qa}{o v:Option (List α)}(hz:0<z)(hy:qaa z y=some [f x])(hv:apO o [x]=some v):appR z b h (some t) (some (sl z f o)) (some y)=ifR (decide (b≤4096)) (some ⟨sl z f v,true,some t,h⟩):=by
 by_cases hb:b≤4096
 ·rw[qzw hz hb hy hv (.inr rfl)];simp[ifR,hb]
 ·have hb':decide (b≤4096)=false:=by simp[hb]
  rw[hb']
  cases o with
  |none=>simp[sl,appR,appR.appS,ifR,hb,hy,qde]
  |some l=>simp[sl,appR,appR.appS,ifR,hb,hy,qde]
theorem qa9 {z b t:Nat}{f:α→qa}{o2 v:Option (List α)}(hv:apO (some []) (o2.getD [])=some v):appR (z+1) b h (some t) (some (.list false (z+1) [])) (some (sl (z+1) f o2))=ifR (decide (b≤4096)) (some ⟨sl (z+1) f v,true,some t,h⟩):=
 jcb (o:=some []) hv
end
def yc (s:List UInt8):qa:=.str s
@[go_sem] theorem js9 {h0:Nat}{al:Option (List Nat)}{h:zb}{b:List UInt8}:qa5 h0 al false 1 h (some (.vptr (yc b)))=some ⟨.str b,false,none,h⟩:=rfl
@[go_sem] theorem jub {n z:Nat}{l:Option (List (List UInt8))}:below n (sl z yc l)=true:=qev fun _=>rfl
theorem qwe {b t:Nat}{h:zb}{bb:Bool}{x:Int}{o v:Option (List Int)}(hv:apO o [x]=some v):appR 1 b h (some t) (some (sl 1 yb o)) (some (.list bb 1 [.int .i64 x]))=ifR (decide (b≤4096)) (some ⟨sl 1 yb v,true,some t,h⟩):=qhn (by omega) rfl hv
theorem qw4 {b t:Nat}{h:zb}{bb:Bool}{x:List UInt8}{o v:Option (List (List UInt8))}(hv:apO o [x]=some v):appR 1 b h (some t) (some (sl 1 yc o)) (some (.list bb 1 [.str x]))=ifR (decide (b≤4096)) (some ⟨sl 1 yc v,true,some t,h⟩):=qhn (by omega) rfl hv
theorem qzc {p:qu}{xc:XC}{k:Nat}{args:List qa}{v v':qa}{o:Bool}{h:zb}(hp:p.prims k=none)(hc:zj p xc k args []=some (v,o,h))(hz:freezeR h v=some v')(hv:below 0 v'=true)(hl:v.isList=true):j6 p xc k args=some (v',o):=by
 rw[qbj hp hc hz hv,hl,Bool.and_true]
section
variable {p:qu}{xc:XC}{h0:Nat}{al:Option (List Nat)}{e:Env}{h:zb}{α:Type}
def qka (h0 r sz bytes:Nat)(zero:List qa)(h:zb)(n c:Option qa):Option qp:=match n,c with
 |some (.int .i64 (.ofNat n)),some (.int .i64 (.ofNat c))=>
  bif Nat.beq n c&&Nat.ble n 1073741824&&Nat.ble bytes 4096&&Nat.beq zero.length sz&&Nat.blt 0 sz&&zero.all zm then
   (match newBox h0 h r (.cells (cellsOf (List.replicate n zero).flatten))with
    |some h'=>val h' (.ms (h0+r) 0 n)
    |none=>none)else none
 |_,_=>none
@[go_sem] theorem zbn {r sz b:Nat}{z:List qa}{n c:qf}:j9 p xc h0 al e h (.mkslice (some r) sz b z n c)=qka h0 r sz b z h (zh e n) (zh e c):=by
 simp only[j9,zu,qka]
 rfl
def qrg (h0 r sz bytes:Nat)(h:zb)(own:Option Nat)(x y:Option qa):Option qp:=match x,y with
 |some (.list false sz' []),some vy=>
  bif own.isSome&&Nat.beq sz sz' then
   (match qaa sz vy with
    |some ys=>
     bif Nat.ble ys.length 1073741824&&Nat.ble bytes 4096&&Nat.blt 0 sz then
      (match newBox h0 h r (.cells (cellsOf (ys.flatMap qa.flat)))with
       |some h'=>some ⟨.ms (h0+r) 0 ys.length,false,own,h'⟩
       |none=>none)
     else none
    |none=>none)
  else none
 |_,_=>none
@[go_sem] theorem j1b {r sz b:Nat}{x y:qf}:j9 p xc h0 al e h (.append (some r) sz b x y)=qrg h0 r sz b h (kx e x) (zh e x) (zh e y):=by
 simp only[j9,zu,qrg]
 rfl
def jn8 (own:Option Nat)(v:qa)(r:Option zb):Option qp:=match r with
 |some h'=>some ⟨v,false,own,h'⟩
 |none=>none
@[go_sem] theorem jpj {own:Option Nat}{v:qa}:jn8 own v (some h)=some ⟨v,false,own,h⟩:=rfl
def q8t (c:Option (List (qa×Bool)))(off len:Nat):Option qa:=match c with
 |some cs=>bif qze off len cs then some (.list false (cs.length / len) (qdq (cs.length / len) len (cs.map (·.1))))else(match kn cs off len with
  |some vs=>some (.list false 1 vs)
  |none=>none)
 |none=>none
@[go_sem] theorem ql6 {b o n:Nat}:freezeR h (.ms b o n)=q8t (yw h b) o n:=by
 simp only[freezeR,qbd,q8t];rfl
@[go_sem] theorem jw9 {z:Nat}{f:α→qa}{o:Option (List α)}:q2q 0 false h (some (sl z f o))=some ⟨.bool o.isNone,false,none,h⟩:=by cases o<;>rfl
theorem qgr {z b:Nat}{f:α→qa}{x:α}{y:qa}{o v:Option (List α)}(hz:0<z)(hy:qaa z y=some [f x])(hn:o.isNone=true)(hv:apO o [x]=some v):appR z b h none (some (sl z f o)) (some y)=ifR (decide (b≤4096)) (some ⟨sl z f v,true,none,h⟩):=by
 cases o with
 |some l=>cases hn
 |none=>
  by_cases hb:b≤4096
  ·rw[qzw hz hb hy hv (.inl rfl)];simp[ifR,hb]
  ·have hb':decide (b≤4096)=false:=by simp[hb]
   rw[hb']
   simp[sl,appR,appR.appS,ifR,hb,hy,qde]
theorem qwl {b:Nat}{bb:Bool}{x:Int}{o v:Option (List Int)}(hv:apO o [x]=some v)(hn:o.isNone=true):appR 1 b h none (some (sl 1 yb o)) (some (.list bb 1 [.int .i64 x]))=ifR (decide (b≤4096)) (some ⟨sl 1 yb v,true,none,h⟩):=qgr (by omega) rfl hn hv
attribute [go_sem] Nat.le_refl
end
@[go_sem] theorem zdc {h:zb}{a b c d:Int}:q3f [.int,.int] true h (some (.agg [.int .i64 a,.int .i64 b])) (some (.agg [.int .i64 c,.int .i64 d]))=some ⟨.bool (!(decide (a=c)&&decide (b=d))),false,none,h⟩:=by
 show(match qal [.int,.int] [.int .i64 a,.int .i64 b] [.int .i64 c,.int .i64 d]with|some t=>val h (.bool (bif true then !t else t))|none=>none)=_
 have:qal [.int,.int] [.int .i64 a,.int .i64 b] [.int .i64 c,.int .i64 d]=some (decide (a=c)&&decide (b=d)):=by
  have e:∀x y:Int,(x == y)=decide (x=y):=fun x y=>by by_cases h:x=y<;>simp[h]
  simp only[qal,qc7,e,decide_true,cT]
  by_cases h1:a=c<;>by_cases h2:b=d<;>simp[h1,h2]
 rw[this]
 rfl
section
variable {p:qu}{xc:XC}{h0:Nat}{al:Option (List Nat)}{e:Env}{h:zb}
end
noncomputable def qe0 (p:qu)(more:qll)(op:Nat→Bool):qu:={ fns:=p.fns,sprims:=p.sprims,maps:=p.maps,prims:=fun k=>bif op k then none else match more k with
 |some f=>some f
 |none=>bif (p.fns k).isSome||(p.prims k).isSome||(p.sprims k).isSome then some fun args=>j6 p (X p) k args else none }
theorem q0x {p:qu}{xc:XC}{k:Nat}{args:List qa}{r:qa×Bool}(h:j6 p xc k args=some r):((p.fns k).isSome||(p.prims k).isSome||(p.sprims k).isSome)=true:=by
 unfold j6 at h
 split at h
 ·rename_i f hf;simp[hf]
 ·split at h
  ·rename_i hc
   unfold zj at hc
   split at hc
   ·rename_i f hf;simp[hf]
   ·split at hc
    ·rename_i f hf;simp[hf]
    ·cases hc
  ·cases h
theorem q72 {p:qu}{more:qll}{op:Nat→Bool}{k:Nat}(ho:op k=false)(hm:more k=none){xc:XC}{args:List qa}{v:qa}{o:Bool}(h:j6 p (X p) k args=some (v,o))(hv:qe3 v=true):j6 (qe0 p more op) xc k args=some (v,o):=by
 have hk:=q0x h
 unfold j6
 have:(qe0 p more op).prims k=some fun args=>j6 p (X p) k args:=by simp only[qe0,ho,cF,hm,hk,cT]
 rw[this]
 simp only[h,hv,cT]
theorem q9a {p:qu}{more:qll}{op:Nat→Bool}{k:Nat}{f:List qa→Option (qa×Bool)}(ho:op k=false)(hm:more k=some f){xc:XC}{args:List qa}{v:qa}{o:Bool}(h:f args=some (v,o))(hv:qe3 v=true):j6 (qe0 p more op) xc k args=some (v,o):=by
 unfold j6
 have:(qe0 p more op).prims k=some f:=by simp only[qe0,ho,cF,hm]
 rw[this]
 simp only[h,hv,cT]
theorem jea {P:Program}{p:qu}{more:qll}{op:Nat→Bool}(hp:qx P p)(hm:∀k f,more k=some f→Enters P k∧∀args v o,f args=some (v,o)→qe3 v=true→z8 0 args=true→IsoCall P k args v o):qx P (qe0 p more op) where
 fn:=hp.fn
 maps:=hp.maps
 prim:=by
  intro k f hf
  cases ho:op k with
  |true=>
   have:(qe0 p more op).prims k=none:=by simp only[qe0,ho,cT]
   rw[this]at hf;cases hf
  |false=>
  cases hmk:more k with
  |some g=>
   have:(qe0 p more op).prims k=some g:=by simp only[qe0,ho,cF,hmk]
   rw[this]at hf
   cases hf
   exact hm k _ hmk
  |none=>
   cases hk:((p.fns k).isSome||(p.prims k).isSome||(p.sprims k).isSome)with
   |false=>
    have:(qe0 p more op).prims k=none:=by simp only[qe0,ho,hmk,hk,cF]
    rw[this]at hf;cases hf
   |true=>
    have:(qe0 p more op).prims k=some fun args=>j6 p (X p) k args:=by simp only[qe0,ho,cF,hmk,hk,cT]
    rw[this]at hf
    cases hf
    refine⟨?_,fun args v o h _ hb=>q3m hp h hb⟩
    simp only[Bool.or_eq_true]at hk
    rcases hk with(h|h)|h
    ·obtain⟨af,ha⟩:=Option.isSome_iff_exists.1 h
     exact hp.enters ha
    ·obtain⟨g,hg⟩:=Option.isSome_iff_exists.1 h
     exact(hp.prim k g hg).1
    ·obtain⟨g,hg⟩:=Option.isSome_iff_exists.1 h
     exact(hp.sprim k g hg).1
 mixed:=hp.mixed
 sprim:=hp.sprim
theorem qax {i:Nat}(h:i<9223372036854775807):j8 .i64 ((i:Int)+1)=((i+1:Nat):Int):=by
 rw[q0o (by omega) (by omega)];rfl
variable {h:zb}
theorem qxb {b:Nat}{bb:Bool}{x:List UInt8}{o v:Option (List (List UInt8))}(hv:apO o [x]=some v)(hn:o.isNone=true):appR 1 b h none (some (sl 1 yc o)) (some (.list bb 1 [.str x]))=ifR (decide (b≤4096)) (some ⟨sl 1 yc v,true,none,h⟩):=qgr (by omega) rfl hn hv
theorem yq {b pos:Nat}{s:List UInt8}(hp:decide (pos<s.length)=true):qlf h b (some (.iter s pos))=qdt (yv h b (.iter s (pos+(zo s pos).2))) (.tup [.bool true,.int .i64 pos,.int .i32 (zo s pos).1]):=jc1 (of_decide_eq_true hp)
theorem qwq {b pos:Nat}{s:List UInt8}(hp:decide (pos<s.length)=false):qlf h b (some (.iter s pos))=some ⟨.tup [.bool false],false,none,h⟩:=q92 (of_decide_eq_false hp)
end Go.Z
