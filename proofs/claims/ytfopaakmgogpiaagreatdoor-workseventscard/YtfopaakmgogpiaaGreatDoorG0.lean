/- Functions in Option that mirror the machine's runs. -/
import Derived.Test.YtfopaakmgogpiaaGreatDoorL1
import Derived.Test.YtfopaakmgogpiaaGreatDoorAbsH
set_option linter.unusedVariables false
set_option linter.unusedSimpArgs false
set_option maxRecDepth 100000
namespace Go.Z
open Go Go.Abs
def jw {α β:Type}(x:Option α)(f:α→Option β):Option β:=match x with
 |some a=>f a
 |none=>none
@[simp] theorem quv {α β:Type}{a:α}{f:α→Option β}:jw (some a) f=f a:=rfl
@[simp] theorem zbu {α β:Type}{f:α→Option β}:jw none f=none:=rfl
theorem jx {α β:Type}{x:Option α}{f:α→Option β}{r:β}(h:jw x f=some r):∃a,x=some a∧f a=some r:=by
 cases x with
 |none=>cases h
 |some a=>exact⟨a,rfl,h⟩
theorem jz {α:Type}{c:Bool}{a b r:α}(h:cond c a b=r):(c=true∧a=r)∨(c=false∧b=r):=by
 cases c
 ·exact .inr ⟨rfl,h⟩
 ·exact .inl ⟨rfl,h⟩
def itF {σ δ:Type}(f:σ→Option (σ⊕δ)):Nat→σ→Option δ
 |0,_=>none
 |n+1,s=>match f s with
  |none=>none
  |some (.inl s')=>itF f n s'
  |some (.inr d)=>some d
theorem q2z {σ δ:Type}{f:σ→Option (σ⊕δ)}{d:δ}:∀ {n:Nat} {s:σ},itF f n s=some d→itF f (n+1) s=some d
 |0,_,h=>by cases h
 |n+1,s,h=>by
  rw[itF]at h ⊢
  cases hf:f s with
  |none=>rw[hf]at h;cases h
  |some x=>
   rw[hf]at h
   cases x with
   |inl s'=>exact q2z h
   |inr d'=>exact h
theorem jcu {σ δ:Type}{f:σ→Option (σ⊕δ)}{d:δ}{n m:Nat}{s:σ}(hm:n≤m)(h:itF f n s=some d):itF f m s=some d:=by
 induction hm with
 |refl=>exact h
 |step _ ih=>exact q2z ih
open Classical in
noncomputable def itO {σ δ:Type}(f:σ→Option (σ⊕δ))(s:σ):Option δ:=
 if h:∃d n,itF f n s=some d then some (Classical.choose h)else none
theorem qth {σ δ:Type}{f:σ→Option (σ⊕δ)}{s:σ}{d:δ}:itO f s=some d↔∃n,itF f n s=some d:=by
 unfold itO
 constructor
 ·intro h
  split at h
  ·rename_i hh;cases h;exact Classical.choose_spec hh
  ·cases h
 ·rintro ⟨n,hn⟩
  have hh:∃d n,itF f n s=some d:=⟨d,n,hn⟩
  rw[dif_pos hh]
  obtain⟨m,hm⟩:=Classical.choose_spec hh
  have h1:=jcu (Nat.le_max_left n m) hn
  have h2:=jcu (Nat.le_max_right n m) hm
  rw[h1]at h2
  exact h2.symm
theorem qec {σ δ:Type}{f:σ→Option (σ⊕δ)}{s s':σ}(h:f s=some (.inl s')):itO f s=itO f s':=by
 z8 Option.ext
 intro d
 rw[qth,qth]
 constructor
 ·rintro ⟨n,hn⟩
  cases n with
  |zero=>cases hn
  |succ n=>rw[itF,h]at hn;exact⟨n,hn⟩
 ·rintro ⟨n,hn⟩
  exact⟨n+1,by rw[itF,h];exact hn⟩
theorem qa6 {σ δ:Type}{f:σ→Option (σ⊕δ)}{s:σ}{d:δ}(h:f s=some (.inr d)):itO f s=some d:=
 qth.2 ⟨1,by rw[itF,h]⟩
theorem q6u {α γ σ δ ε:Type}(l:List α)(f:σ→Option (σ⊕δ))(mk:Nat→γ→σ)(g:Nat→γ→α→γ⊕ε)(En:γ→δ)(Ex:ε→δ)(Inv:Nat→γ→Prop)
  (hend:∀s,Inv l.length s→f (mk l.length s)=some (.inr (En s)))
  (hstep:∀i s x,l[i]?=some x→i<l.length→Inv i s→match g i s x with
   | .inl s'=>Inv (i+1) s'∧f (mk i s)=some (.inl (mk (i+1) s'))
   | .inr d=>f (mk i s)=some (.inr (Ex d))):
  ∀(k i:Nat) (s:γ),i+k=l.length→Inv i s→itO f (mk i s)=some (match qzj g i s (l.drop i)with
   | .inl s=>En s
   | .inr d=>Ex d)
 |0,i,s,hi,hv=>by
  have hi':i=l.length:=by omega
  subst hi'
  rw[List.drop_eq_nil_of_le (Nat.le_refl _),qa6 (hend s hv)]
  rfl
 |k+1,i,s,hi,hv=>by
  obtain⟨x,hx⟩:∃x,l[i]?=some x:=⟨_,List.getElem?_eq_getElem (by omega)⟩
  have hs:=hstep i s x hx (by omega) hv
  rw[qcp hx]
  simp only[qzj]
  cases hg:g i s x with
  |inl s'=>
   rw[hg]at hs
   obtain⟨hv',h1⟩:=hs
   rw[qec h1]
   exact q6u l f mk g En Ex Inv hend hstep k (i+1) s' (by omega) hv'
  |inr d=>
   rw[hg]at hs
   rw[qa6 hs]
theorem q3l {α γ σ δ ε:Type}(l:List α)(f:σ→Option (σ⊕δ))(mk:Nat→γ→σ)(g:Nat→γ→α→γ⊕ε)(En:γ→δ)(Ex:ε→δ)(Inv:Nat→γ→Prop)(s:γ)
  (hend:∀s,Inv l.length s→f (mk l.length s)=some (.inr (En s)))
  (hstep:∀i s x,l[i]?=some x→i<l.length→Inv i s→match g i s x with
   | .inl s'=>Inv (i+1) s'∧f (mk i s)=some (.inl (mk (i+1) s'))
   | .inr d=>f (mk i s)=some (.inr (Ex d))) (hv:Inv 0 s):
  itO f (mk 0 s)=some (match qzj g 0 s l with
   | .inl s=>En s
   | .inr d=>Ex d):=by
 have:=q6u l f mk g En Ex Inv hend hstep l.length 0 s (by omega) hv
 rwa [List.drop_zero]at this
theorem qy3 {α ε:Type}(l:List α)(f:Int→Option (Int⊕(ε⊕Int)))(P:Nat→α→Prop)
  (hend:f (l.length:Int)=some (.inr (.inr (l.length:Int))))
  (hstep:∀(i:Nat) (x:α),l[i]?=some x→(f (i:Int)=some (.inl ((i+1:Nat):Int))∧P i x)∨∃e,f (i:Int)=some (.inr (.inl e))):
  (∃e,itO f 0=some (.inl e))∨(itO f 0=some (.inr (l.length:Int))∧∀(i:Nat) (x:α),l[i]?=some x→P i x):=by
 have key:∀(k i:Nat),i+k=l.length→(∀(j:Nat) (x:α),j<i→l[j]?=some x→P j x) →
   (∃e,itO f (i:Int)=some (.inl e))∨(itO f (i:Int)=some (.inr (l.length:Int))∧∀(i:Nat) (x:α),l[i]?=some x→P i x):=by
  intro k
  induction k with
  |zero=>
   intro i hi hp
   have:i=l.length:=by omega
   subst this
   exact .inr ⟨qa6 hend,fun j x hx=>hp j x (List.getElem?_eq_some_iff.1 hx).1 hx⟩
  |succ k ih=>
   intro i hi hp
   obtain⟨x,hx⟩:∃x,l[i]?=some x:=⟨_,List.getElem?_eq_getElem (by omega)⟩
   rcases hstep i x hx with⟨h1,h2⟩|⟨e,h1⟩
   ·rw[qec h1]
    refine ih (i+1) (by omega) fun j y hj hy=>?_
    by_cases hji:j=i
    ·subst hji;rw[hx]at hy;cases hy;exact h2
    ·exact hp j y (by omega) hy
   ·exact .inl ⟨e,qa6 h1⟩
 exact key l.length 0 (by omega) fun j x hj=>absurd hj (by omega)
theorem jeo {ε:Type}(n:Nat)(f:Int→Option (Int⊕(ε⊕Int)))(hend:f (n:Int)=some (.inr (.inr (n:Int))))(hstep:∀i:Nat,i<n→f (i:Int)=some (.inl ((i+1:Nat):Int))):itO f 0=some (.inr (n:Int)):=by
 have hl:(List.range n).length=n:=List.length_range
 rcases qy3 (List.range n) f (fun _ _=>True) (by rw[hl];exact hend) (fun i x hx=>.inl ⟨hstep i (by have:=(List.getElem?_eq_some_iff.1 hx).1;omega),trivial⟩)with⟨e,he⟩|⟨h,_⟩
 ·exfalso
  have key:∀(k i:Nat),i+k=n→itO f (i:Int)=some (.inr (n:Int)):=by
   intro k
   induction k with
   |zero=>
    intro i hi
    have:i=n:=by omega
    subst this
    exact qa6 hend
   |succ k ih=>intro i hi;rw[qec (hstep i (by omega))];exact ih (i+1) (by omega)
  have:=key n 0 (by omega)
  rw[Int.natCast_zero,he]at this
  cases this
 ·rw[h,hl]
def yq {σ δ:Type}(p:qt)(c:qe)(St:σ→qg)(Ex:δ→qo×qg)(s:σ)(r:σ⊕δ):Prop:=match r with
 | .inl s'=>∃st',X p c (St s)=some (.normal,st')∧gc (St s).heap.length st'=St s'
 | .inr d=>X p c (St s)=some (Ex d)
theorem qex {σ δ:Type}{p:qt}{c:qe}{St:σ→qg}{Ex:δ→qo×qg}{s s':σ}{st':qg}(hx:X p c (St s)=some (.normal,st'))(hc:gc (St s).heap.length st'=St s'):yq p c St Ex s (.inl s'):=⟨st',hx,hc⟩
theorem zw {σ δ:Type}{p:qt}{c:qe}{St:σ→qg}{Ex:δ→qo×qg}{s:σ}{d:δ}(hx:X p c (St s)=some (Ex d)):yq p c St Ex s (.inr d):=hx
theorem jjw {σ δ:Type}{p:qt}{c:qe}{St:σ→qg}{Ex:δ→qo×qg}{f:σ→Option (σ⊕δ)}(hb:∀s r,f s=some r→yq p c St Ex s r)(hX:∀d,(Ex d).1≠.normal){d:δ}:
  ∀ {n:Nat} {s:σ},itF f n s=some d→X p (.loop c) (St s)=some (Ex d)
 |0,_,h=>by cases h
 |n+1,s,h=>by
  rw[itF]at h
  rw[jl2]
  cases hf:f s with
  |none=>rw[hf]at h;cases h
  |some x=>
   rw[hf]at h
   have hs:=hb s x hf
   cases x with
   |inl s'=>
    obtain⟨st',h1,h2⟩:=hs
    rw[h1,q37,h2]
    exact jjw hb hX h
   |inr d'=>
    cases h
    rw[show X p c (St s)=some (Ex d)from hs,ja8 (hX d)]
theorem y8 {σ δ:Type}{p:qt}{c:qe}{St:σ→qg}{Ex:δ→qo×qg}{f:σ→Option (σ⊕δ)}(hb:∀s r,f s=some r→yq p c St Ex s r)(hX:∀d,(Ex d).1≠.normal){s:σ}{d:δ}(h:itO f s=some d):X p (.loop c) (St s)=some (Ex d):=by
 obtain⟨n,hn⟩:=qth.1 h
 exact jjw hb hX hn
section
variable {h0:Nat}{al:Option (List Nat)}{h:j8}{α:Type}
def zo (l:List α)(i:Int):Option α:=if 0≤i then l[i.toNat]? else none
theorem jdy {l:List α}{i:Nat}:zo l (i:Int)=l[i]?:=by simp[zo]
theorem ke {z:Nat}{f:α→qa}{l:Option (List α)}{k:IntKind}{i:Int}{x:α}(hx:zo (l.getD []) i=some x):qcq z h (some (sl z f l)) (some (.int k i))=some ⟨.vptr (f x),false,none,h⟩:=by
 unfold zo at hx
 by_cases hi:0≤i
 ·rw[if_pos hi]at hx
  obtain⟨n,rfl⟩:∃n:Nat,i=(n:Int):=⟨i.toNat,by omega⟩
  exact jq1 (by simpa using hx)
 ·rw[if_neg hi]at hx;cases hx
theorem jdc {s:List UInt8}{k:IntKind}{i:Int}{c:UInt8}(hx:zo s i=some c):qh7 h (some (.str s)) (some (.int k i))=some ⟨.int .u8 (c.toNat:Int),false,none,h⟩:=by
 unfold zo at hx
 by_cases hi:0≤i
 ·rw[if_pos hi]at hx
  obtain⟨n,rfl⟩:∃n:Nat,i=(n:Int):=⟨i.toNat,by omega⟩
  exact jbl (by simpa using hx)
 ·rw[if_neg hi]at hx;cases hx
end
section
variable {h:j8}
end
section
variable {p:qt}{xc:XC}{h0:Nat}{al:Option (List Nat)}{e:Env}{h:j8}
def jz0 (k:IntKind)(h:j8)(x:Option qa):Option qq:=match x with
 |some (.int _ n)=>val h (.int k (j6 k n))
 |_=>none
@[go_sem] theorem j8k {k k':IntKind}{n:Int}:jz0 k h (some (.int k' n))=some ⟨.int k (j6 k n),false,none,h⟩:=rfl
def q4x (h:j8)(x:Option qa):Option qq:=match x with
 |some (.str s)=>val h (.str s)
 |some (.int _ n)=>val h (.str (Utf8.encode n).data.toList)
 |_=>none
@[go_sem] theorem jsk {k:IntKind}{n:Int}:q4x h (some (.int k n))=some ⟨.str (Utf8.encode n).data.toList,false,none,h⟩:=rfl
@[go_sem] theorem jra {s:List UInt8}:q4x h (some (.str s))=some ⟨.str s,false,none,h⟩:=rfl
def qit (h:j8)(x:Option qa):Option qq:=match x with
 |some (.ptr b o)=>val h (.ptr b o)
 |some (.vptr v)=>val h (.vptr v)
 |some (.fn (.func f) a b)=>val h (.fn (.func f) a b)
 |_=>none
@[go_sem] theorem jqk {b o:Nat}:qit h (some (.ptr b o))=some ⟨.ptr b o,false,none,h⟩:=rfl
@[go_sem] theorem jni {v:qa}:qit h (some (.vptr v))=some ⟨.vptr v,false,none,h⟩:=rfl
@[go_sem] theorem jvf {f:Nat}{a b:List qa}:qit h (some (.fn (.func f) a b))=some ⟨.fn (.func f) a b,false,none,h⟩:=rfl
@[go_sem] theorem j37 {x:qh}:j9 p xc h0 al e h (.nilCheck x)=qit h (zc e x):=by
 simp only[j9,zh,qit];rfl
def q2m (agg:Bool)(off n:Nat)(h:j8)(x:Option qa):Option qq:=match x with
 |some (.agg cs)=>qcj h (Go.Abs.part agg cs off n)
 |_=>none
@[go_sem] theorem j2x {agg:Bool}{off n:Nat}{cs:List qa}:q2m agg off n h (some (.agg cs))=qcj h (Go.Abs.part agg cs off n):=rfl
@[go_sem] theorem zi2 {agg:Bool}{off n:Nat}{x:qh}:j9 p xc h0 al e h (.field agg off n x)=q2m agg off n h (zc e x):=by
 simp only[j9,zh,q2m]
 cases zc e x with
 |none=>rfl
 |some v=>cases v<;>rfl
def zjr (agg:Bool)(len n:Nat)(h:j8)(x i:Option qa):Option qq:=match x,i with
 |some (.agg cs),some j=>(match idx len j with
  |some j=>qcj h (Go.Abs.part agg cs (j*n) n)
  |none=>none)
 |_,_=>none
end
section
variable {p:qt}{xc:XC}{h0:Nat}{al:Option (List Nat)}{e:Env}{h:j8}{α:Type}
def qk1 (n dflt:Nat):Option Int→Option Nat
 |none=>some dflt
 |some i=>if 0≤i∧i≤n then some i.toNat else none
def q7d (s:List α)(lo hi:Option Int):Option (List α):=match qk1 s.length s.length hi with
 |some j=>(match qk1 j 0 lo with
  |some i=>some ((s.take j).drop i)
  |none=>none)
 |none=>none
def qlq (o:Option (List α))(lo hi:Option Int):Option (Option (List α)):=match q7d (o.getD []) lo hi with
 |some l=>some (o.map fun _=>l)
 |none=>none
def qk7 (dflt n:Nat):Option (Option qa)→Option Nat
 |none=>some dflt
 |some (some v)=>qo3 n v
 |some none=>none
theorem j53 {dflt n:Nat}{x:Option qh}:bnd e dflt n x=qk7 dflt n (x.map (zc e)):=by
 cases x with
 |none=>rfl
 |some x=>simp only[bnd,Option.map_some,qk7];cases zc e x<;>rfl
theorem jkj {n d:Nat}{k:IntKind}{i:Int}:qo3 n (.int k i)=qk1 n d (some i):=by
 unfold qo3 qk1
 cases i with
 |ofNat m=>
  simp only[]
  by_cases hm:m≤n
  ·rw[if_pos ⟨by simp,by simpa using hm⟩,Nat.ble_eq_true_of_le hm];rfl
  ·rw[if_neg (by simp;omega)]
   cases hb:Nat.ble m n with
   |true=>exact absurd (Nat.le_of_ble_eq_true hb) hm
   |false=>rfl
 |negSucc m=>simp
def jib (k:IntKind):Option Int→Option (Option qa)
 |none=>none
 |some i=>some (some (.int k i))
theorem jar {d n:Nat}{k:IntKind}{x:Option Int}:qk7 d n (jib k x)=qk1 n d x:=by
 cases x with
 |none=>rfl
 |some i=>exact jkj
def qgu (sz:Nat)(h:j8)(x:Option qa)(lo hi:Option (Option qa)):Option qq:=match x with
 |some (.list n sz' xs)=>bif Nat.beq sz sz'||xs.isEmpty then(match qk7 xs.length xs.length hi with
  |some j=>(match qk7 0 j lo with
   |some i=>val h (.list n sz' ((xs.take j).drop i))
   |none=>none)
  |none=>none)else none
 |some (.ms b o len)=>(match qk7 len len hi with
  |some j=>(match qk7 0 j lo with
   |some i=>bif Nat.beq i 0||Nat.blt i j then val h (.ms b (o+i*sz) (j-i))else none
   |none=>none)
  |none=>none)
 |some (.vref b ver len)=>(match qk7 len len hi with
  |some j=>(match qk7 0 j lo with
   |some i=>bif Nat.beq i 0 then val h (.vref b ver j)else none
   |none=>none)
  |none=>none)
 |_=>none
attribute [go_sem] Option.map_some Option.map_none
@[go_sem] theorem zir {sz:Nat}{x:qh}{lo hi:Option qh}:j9 p xc h0 al e h (.slice sz x lo hi)=qgu sz h (zc e x) (lo.map (zc e)) (hi.map (zc e)):=by
 simp only[j9,zh,qgu,j53]
 cases zc e x with
 |none=>rfl
 |some v=>cases v<;>rfl
theorem j25 {z:Nat}{k k':IntKind}{f:α→qa}{o v:Option (List α)}{lo hi:Option Int}(hv:qlq o lo hi=some v):qgu z h (some (sl z f o)) (jib k lo) (jib k' hi)=some ⟨sl z f v,false,none,h⟩:=by
 unfold qlq q7d at hv
 cases o with
 |none=>
  simp only[sl,qgu,List.isEmpty_nil,Bool.or_true,cT,jar]
  simp only[Option.getD_none]at hv
  cases h1:qk1 ([]:List α).length ([]:List α).length hi with
  |none=>rw[h1]at hv;cases hv
  |some j=>
   rw[h1]at hv
   simp only[]at hv
   cases h2:qk1 j 0 lo with
   |none=>rw[h2]at hv;cases hv
   |some i=>
    rw[h2]at hv
    cases hv
    simp only[List.length_nil]at h1
    simp only[List.length_nil,h1,h2,List.take_nil,List.drop_nil]
    rfl
 |some l=>
  simp only[sl,qgu,qte,decide_true,Bool.true_or,cT,jar,List.length_map]
  simp only[Option.getD_some]at hv
  cases h1:qk1 l.length l.length hi with
  |none=>rw[h1]at hv;cases hv
  |some j=>
   rw[h1]at hv
   simp only[]at hv
   cases h2:qk1 j 0 lo with
   |none=>rw[h2]at hv;cases hv
   |some i=>
    rw[h2]at hv
    cases hv
    simp only[h2,val,Option.map_some,List.map_drop,List.map_take]
theorem jkw {z:Nat}{k:IntKind}{f:α→qa}{o v:Option (List α)}{hi:Int}(hv:qlq o none (some hi)=some v):qgu z h (some (sl z f o)) none (some (some (.int k hi)))=some ⟨sl z f v,false,none,h⟩:=j25 (k:=k) hv
end
section
variable {h:j8}{α:Type}
def apS (o:Option (List α))(ys:List α):Option (List α):=match o,ys with
 |none,[]=>none
 |o,ys=>some (o.getD []++ys)
def apO (o:Option (List α))(ys:List α):Option (Option (List α)):=if(o.getD []).length+ys.length≤1073741824 then some (apS o ys)else none
theorem qzx {z b:Nat}{own:Option Nat}{f:α→qa}{o:Option (List α)}{ys:List α}{v:Option (List α)}{y:qa}(hz:0<z)(hb:b≤4096)(hy:kl z y=some (ys.map f))(hv:apO o ys=some v)
  (ho:o=none∨own.isSome=true):appR z b h own (some (sl z f o)) (some y)=some ⟨sl z f v,true,own,h⟩:=by
 unfold apO at hv
 by_cases hl:(o.getD []).length+ys.length≤1073741824
 ·rw[if_pos hl]at hv;cases hv
  cases o with
  |none=>
   simp only[sl,appR,appR.appS,hy,ifR,Bool.true_or,List.isEmpty_nil,Bool.and_true,Bool.or_true,List.length_nil,List.length_map,qcf,qe8,hz,hb,decide_true]
   simp only[Option.getD_none,List.length_nil]at hl
   simp only[hl,decide_true,Bool.and_self,Bool.or_true]
   cases ys with
   |nil=>rfl
   |cons y ys=>simp[qht,apS,sl]
  |some l=>
   have ho':own.isSome=true:=by rcases ho with h|h;cases h;exact h
   simp only[sl,appR,appR.appS,hy,ifR,ho',Bool.or_true,qte,qcf,qe8,hz,hb,decide_true,Bool.true_or,List.length_map]
   simp only[Option.getD_some]at hl
   simp only[hl,decide_true,Bool.and_self]
   simp[qht,apS,sl]
 ·rw[if_neg hl]at hv;cases hv
theorem ji4 {z b t:Nat}{f:α→qa}{o o2 v:Option (List α)}(hv:apO o (o2.getD [])=some v):appR (z+1) b h (some t) (some (sl (z+1) f o)) (some (sl (z+1) f o2))=ifR (decide (b≤4096)) (some ⟨sl (z+1) f v,true,some t,h⟩):=by
 by_cases hb:b≤4096
 ·rw[qzx (by omega) hb q2l hv (.inr rfl)];simp[ifR,hb]
 ·have hb':decide (b≤4096)=false:=by simp[hb]
  rw[hb']
  cases o with
  |none=>simp[sl,appR,appR.appS,ifR,hb,qcf];split<;>rfl
  |some l=>simp[sl,appR,appR.appS,ifR,hb,qcf];split<;>rfl
theorem qgj {z b t:Nat}{f:α→qa}{x:α}{y:qa}{o v:Option (List α)}(hz:0<z)(hy:kl z y=some [f x])(hv:apO o [x]=some v):appR z b h (some t) (some (sl z f o)) (some y)=ifR (decide (b≤4096)) (some ⟨sl z f v,true,some t,h⟩):=by
 by_cases hb:b≤4096
 ·rw[qzx hz hb hy hv (.inr rfl)];simp[ifR,hb]
 ·have hb':decide (b≤4096)=false:=by simp[hb]
  rw[hb']
  cases o with
  |none=>simp[sl,appR,appR.appS,ifR,hb,hy,qcf]
  |some l=>simp[sl,appR,appR.appS,ifR,hb,hy,qcf]
theorem jcn {z b t:Nat}{f:α→qa}{o2 v:Option (List α)}(hv:apO (some []) (o2.getD [])=some v):appR (z+1) b h (some t) (some (.list false (z+1) [])) (some (sl (z+1) f o2))=ifR (decide (b≤4096)) (some ⟨sl (z+1) f v,true,some t,h⟩):=
 ji4 (o:=some []) hv
end
def qae (s:List UInt8):qa:=.str s
@[go_sem] theorem j6j {h0:Nat}{al:Option (List Nat)}{h:j8}{b:List UInt8}:qas h0 al false 1 h (some (.vptr (qae b)))=some ⟨.str b,false,none,h⟩:=rfl
@[go_sem] theorem j42 {n z:Nat}{l:Option (List (List UInt8))}:below n (sl z qae l)=true:=qdx fun _=>rfl
theorem q7v {b t:Nat}{h:j8}{bb:Bool}{x:Int}{o v:Option (List Int)}(hv:apO o [x]=some v):appR 1 b h (some t) (some (sl 1 kr o)) (some (.list bb 1 [.int .i64 x]))=ifR (decide (b≤4096)) (some ⟨sl 1 kr v,true,some t,h⟩):=qgj (by omega) rfl hv
theorem q64 {b t:Nat}{h:j8}{bb:Bool}{x:List UInt8}{o v:Option (List (List UInt8))}(hv:apO o [x]=some v):appR 1 b h (some t) (some (sl 1 qae o)) (some (.list bb 1 [.str x]))=ifR (decide (b≤4096)) (some ⟨sl 1 qae v,true,some t,h⟩):=qgj (by omega) rfl hv
theorem qzo {p:qt}{xc:XC}{k:Nat}{args:List qa}{v v':qa}{o:Bool}{h:j8}(hp:p.prims k=none)(hc:zf p xc k args []=some (v,o,h))(hz:freezeR h v=some v')(hv:below 0 v'=true)(hl:v.isList=true):jy p xc k args=some (v',o):=by
 rw[kq hp hc hz hv,hl,Bool.and_true]
section
variable {p:qt}{xc:XC}{h0:Nat}{al:Option (List Nat)}{e:Env}{h:j8}{α:Type}
def qis (h0 r sz bytes:Nat)(zero:List qa)(h:j8)(n c:Option qa):Option qq:=match n,c with
 |some (.int .i64 (.ofNat n)),some (.int .i64 (.ofNat c))=>
  bif Nat.beq n c&&Nat.ble n 1073741824&&Nat.ble bytes 4096&&Nat.beq zero.length sz&&Nat.blt 0 sz&&zero.all ze then
   (match newBox h0 h r (.cells (cellsOf (List.replicate n zero).flatten))with
    |some h'=>val h' (.ms (h0+r) 0 n)
    |none=>none)else none
 |_,_=>none
@[go_sem] theorem zij {r sz b:Nat}{z:List qa}{n c:qh}:j9 p xc h0 al e h (.mkslice (some r) sz b z n c)=qis h0 r sz b z h (zc e n) (zc e c):=by
 simp only[j9,zj,qis]
 rfl
def qoq (h0 r sz bytes:Nat)(h:j8)(own:Option Nat)(x y:Option qa):Option qq:=match x,y with
 |some (.list false sz' []),some vy=>
  bif own.isSome&&Nat.beq sz sz' then
   (match kl sz vy with
    |some ys=>
     bif Nat.ble ys.length 1073741824&&Nat.ble bytes 4096&&Nat.blt 0 sz then
      (match newBox h0 h r (.cells (cellsOf (ys.flatMap qa.flat)))with
       |some h'=>some ⟨.ms (h0+r) 0 ys.length,false,own,h'⟩
       |none=>none)
     else none
    |none=>none)
  else none
 |_,_=>none
@[go_sem] theorem j8o {r sz b:Nat}{x y:qh}:j9 p xc h0 al e h (.append (some r) sz b x y)=qoq h0 r sz b h (kh e x) (zc e x) (zc e y):=by
 simp only[j9,zj,qoq]
 rfl
def jpu (own:Option Nat)(v:qa)(r:Option j8):Option qq:=match r with
 |some h'=>some ⟨v,false,own,h'⟩
 |none=>none
@[go_sem] theorem jvw {own:Option Nat}{v:qa}:jpu own v (some h)=some ⟨v,false,own,h⟩:=rfl
def q79 (c:Option (List (qa×Bool)))(off len:Nat):Option qa:=match c with
 |some cs=>bif qye off len cs then some (.list false (cs.length / len) (qc3 (cs.length / len) len (cs.map (·.1))))else(match y9 cs off len with
  |some vs=>some (.list false 1 vs)
  |none=>none)
 |none=>none
@[go_sem] theorem qj5 {b o n:Nat}:freezeR h (.ms b o n)=q79 (yn h b) o n:=by
 simp only[freezeR,qa4,q79];rfl
@[go_sem] theorem jyx {z:Nat}{f:α→qa}{o:Option (List α)}:q3q 0 false h (some (sl z f o))=some ⟨.bool o.isNone,false,none,h⟩:=by cases o<;>rfl
theorem qd2 {z b:Nat}{f:α→qa}{x:α}{y:qa}{o v:Option (List α)}(hz:0<z)(hy:kl z y=some [f x])(hn:o.isNone=true)(hv:apO o [x]=some v):appR z b h none (some (sl z f o)) (some y)=ifR (decide (b≤4096)) (some ⟨sl z f v,true,none,h⟩):=by
 cases o with
 |some l=>cases hn
 |none=>
  by_cases hb:b≤4096
  ·rw[qzx hz hb hy hv (.inl rfl)];simp[ifR,hb]
  ·have hb':decide (b≤4096)=false:=by simp[hb]
   rw[hb']
   simp[sl,appR,appR.appS,ifR,hb,hy,qcf]
theorem q87 {b:Nat}{bb:Bool}{x:Int}{o v:Option (List Int)}(hv:apO o [x]=some v)(hn:o.isNone=true):appR 1 b h none (some (sl 1 kr o)) (some (.list bb 1 [.int .i64 x]))=ifR (decide (b≤4096)) (some ⟨sl 1 kr v,true,none,h⟩):=qd2 (by omega) rfl hn hv
attribute [go_sem] Nat.le_refl
end
@[go_sem] theorem zjw {h:j8}{a b c d:Int}:q2u [.int,.int] true h (some (.agg [.int .i64 a,.int .i64 b])) (some (.agg [.int .i64 c,.int .i64 d]))=some ⟨.bool (!(decide (a=c)&&decide (b=d))),false,none,h⟩:=by
 show(match kz [.int,.int] [.int .i64 a,.int .i64 b] [.int .i64 c,.int .i64 d]with|some t=>val h (.bool (bif true then !t else t))|none=>none)=_
 have:kz [.int,.int] [.int .i64 a,.int .i64 b] [.int .i64 c,.int .i64 d]=some (decide (a=c)&&decide (b=d)):=by
  have e:∀x y:Int,(x == y)=decide (x=y):=fun x y=>by by_cases h:x=y<;>simp[h]
  simp only[kz,qcm,e,decide_true,cT]
  by_cases h1:a=c<;>by_cases h2:b=d<;>simp[h1,h2]
 rw[this]
 rfl
section
variable {p:qt}{xc:XC}{h0:Nat}{al:Option (List Nat)}{e:Env}{h:j8}
end
noncomputable def qd9 (p:qt)(more:qjx)(op:Nat→Bool):qt:={ fns:=p.fns,sprims:=p.sprims,maps:=p.maps,prims:=fun k=>bif op k then none else match more k with
 |some f=>some f
 |none=>bif (p.fns k).isSome||(p.prims k).isSome||(p.sprims k).isSome then some fun args=>jy p (X p) k args else none }
theorem q0o {p:qt}{xc:XC}{k:Nat}{args:List qa}{r:qa×Bool}(h:jy p xc k args=some r):((p.fns k).isSome||(p.prims k).isSome||(p.sprims k).isSome)=true:=by
 unfold jy at h
 split at h
 ·rename_i f hf;simp[hf]
 ·split at h
  ·rename_i hc
   unfold zf at hc
   split at hc
   ·rename_i f hf;simp[hf]
   ·split at hc
    ·rename_i f hf;simp[hf]
    ·cases hc
  ·cases h
theorem q9r {p:qt}{more:qjx}{op:Nat→Bool}{k:Nat}(ho:op k=false)(hm:more k=none){xc:XC}{args:List qa}{v:qa}{o:Bool}(h:jy p (X p) k args=some (v,o))(hv:qea v=true):jy (qd9 p more op) xc k args=some (v,o):=by
 have hk:=q0o h
 unfold jy
 have:(qd9 p more op).prims k=some fun args=>jy p (X p) k args:=by simp only[qd9,ho,cond_false,hm,hk,cT]
 rw[this]
 simp only[h,hv,cT]
theorem q7q {p:qt}{more:qjx}{op:Nat→Bool}{k:Nat}{f:List qa→Option (qa×Bool)}(ho:op k=false)(hm:more k=some f){xc:XC}{args:List qa}{v:qa}{o:Bool}(h:f args=some (v,o))(hv:qea v=true):jy (qd9 p more op) xc k args=some (v,o):=by
 unfold jy
 have:(qd9 p more op).prims k=some f:=by simp only[qd9,ho,cond_false,hm]
 rw[this]
 simp only[h,hv,cT]
theorem jhb {P:Program}{p:qt}{more:qjx}{op:Nat→Bool}(hp:qx P p)(hm:∀k f,more k=some f→Enters P k∧∀args v o,f args=some (v,o)→qea v=true→zu 0 args=true→IsoCall P k args v o):qx P (qd9 p more op) where
 fn:=hp.fn
 maps:=hp.maps
 prim:=by
  intro k f hf
  cases ho:op k with
  |true=>
   have:(qd9 p more op).prims k=none:=by simp only[qd9,ho,cT]
   rw[this]at hf;cases hf
  |false=>
  cases hmk:more k with
  |some g=>
   have:(qd9 p more op).prims k=some g:=by simp only[qd9,ho,cond_false,hmk]
   rw[this]at hf
   cases hf
   exact hm k _ hmk
  |none=>
   cases hk:((p.fns k).isSome||(p.prims k).isSome||(p.sprims k).isSome)with
   |false=>
    have:(qd9 p more op).prims k=none:=by simp only[qd9,ho,hmk,hk,cond_false]
    rw[this]at hf;cases hf
   |true=>
    have:(qd9 p more op).prims k=some fun args=>jy p (X p) k args:=by simp only[qd9,ho,cond_false,hmk,hk,cT]
    rw[this]at hf
    cases hf
    refine⟨?_,fun args v o h _ hb=>q1r hp h hb⟩
    simp only[Bool.or_eq_true]at hk
    rcases hk with(h|h)|h
    ·obtain⟨af,ha⟩:=Option.isSome_iff_exists.1 h
     exact hp.enters ha
    ·obtain⟨g,hg⟩:=Option.isSome_iff_exists.1 h
     exact(hp.prim k g hg).1
    ·obtain⟨g,hg⟩:=Option.isSome_iff_exists.1 h
     exact(hp.sprim k g hg).1
 mixed:=hp.mixed
 sprim:=hp.sprim
theorem qaj {i:Nat}(h:i<9223372036854775807):j6 .i64 ((i:Int)+1)=((i+1:Nat):Int):=by
 rw[q0j (by omega) (by omega)];rfl
variable {h:j8}
theorem jt7 {b pos:Nat}{s:List UInt8}(hp:decide (pos<s.length)=true):qik h b (some (.iter s pos))=qcv (ym h b (.iter s (pos+(zg s pos).2))) (.tup [.bool true,.int .i64 pos,.int .i32 (zg s pos).1]):=jge (of_decide_eq_true hp)
theorem jps {b pos:Nat}{s:List UInt8}(hp:decide (pos<s.length)=false):qik h b (some (.iter s pos))=some ⟨.tup [.bool false],false,none,h⟩:=jbk (of_decide_eq_false hp)
end Go.Z
