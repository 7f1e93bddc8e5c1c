/- Functions in Option that mirror the machine's runs. -/
import Derived.Test.YtfopaakmgogpiaaGreatDoorL1
import Derived.Test.YtfopaakmgogpiaaGreatDoorAbsH
set_option linter.unusedVariables false
set_option linter.unusedSimpArgs false
set_option maxRecDepth 100000
open Option renaming some→I,none→Ef,isSome_iff_exists→E3,getD_none→Gm,getD_some→Gy,map_some→Gz
open Bool renaming false→E0,true→E1,or_true→E9,true_or→Gc,and_true→Ha,and_self→Hb
open List renaming length_nil→E4,getElem?_eq_some_iff→E6,getElem?_eq_getElem→E7,length_map→Ga,isEmpty_nil→Ge
open Nat renaming beq→Gb,ble→Gd
namespace Go.Z
open Go Go.Abs
def jw {α β:Type}(x:Option α)(f:α→Option β):Option β:=match x with
 |some a=>f a
 |none=>Ef
@[simp] theorem VB {α β:Type}{a:α}{f:α→Option β}:jw (I a) f=f a:=rfl
@[simp] theorem zg4 {α β:Type}{f:α→Option β}:jw Ef f=Ef:=rfl
theorem jx {α β:Type}{x:Option α}{f:α→Option β}{r:β}(h:jw x f=I r):∃a,x=I a∧f a=I r:=by
 cases x with
 |none=>cases h
 |some a=>exact⟨a,rfl,h⟩
theorem jz {α:Type}{c:Bool}{a b r:α}(h:cond c a b=r):(c=E1∧a=r)∨(c=E0∧b=r):=by
 cases c
 ·exact .inr ⟨rfl,h⟩
 ·exact .inl ⟨rfl,h⟩
def nX {σ δ:Type}(f:σ→Option (σ⊕δ)):Nat→σ→Option δ
 |0,_=>Ef
 |n+1,s=>match f s with
  |none=>Ef
  |some (.inl s')=>nX f n s'
  |some (.inr d)=>I d
theorem q36 {σ δ:Type}{f:σ→Option (σ⊕δ)}{d:δ}:∀ {n:Nat} {s:σ},nX f n s=I d→nX f (n+1) s=I d
 |0,_,h=>by cases h
 |n+1,s,h=>by
  rw[nX]at h ⊢
  cases hf:f s with
  |none=>rw[hf]at h;cases h
  |some x=>
   rw[hf]at h
   cases x with
   |inl s'=>exact q36 h
   |inr d'=>exact h
theorem jbp {σ δ:Type}{f:σ→Option (σ⊕δ)}{d:δ}{n m:Nat}{s:σ}(hm:n≤m)(h:nX f n s=I d):nX f m s=I d:=by
 induction hm with
 |refl=>exact h
 |step _ ih=>exact q36 ih
open Classical in
noncomputable def bf {σ δ:Type}(f:σ→Option (σ⊕δ))(s:σ):Option δ:=
 if h:∃d n,nX f n s=I d then I (Classical.choose h)else Ef
theorem NE {σ δ:Type}{f:σ→Option (σ⊕δ)}{s:σ}{d:δ}:bf f s=I d↔∃n,nX f n s=I d:=by
 unfold bf
 constructor
 ·intro h
  split at h
  ·rename_i hh;cases h;exact Classical.choose_spec hh
  ·cases h
 ·rintro ⟨n,hn⟩
  have hh:∃d n,nX f n s=I d:=⟨d,n,hn⟩
  rw[dif_pos hh]
  obtain⟨m,hm⟩:=Classical.choose_spec hh
  have h1:=jbp (Nat.le_max_left n m) hn
  have h2:=jbp (Nat.le_max_right n m) hm
  rw[h1]at h2
  exact h2.symm
theorem oo {σ δ:Type}{f:σ→Option (σ⊕δ)}{s s':σ}(h:f s=I (.inl s')):bf f s=bf f s':=by
 apply Option.ext
 intro d
 rw[NE,NE]
 constructor
 ·rintro ⟨n,hn⟩
  cases n with
  |zero=>cases hn
  |succ n=>rw[nX,h]at hn;exact⟨n,hn⟩
 ·rintro ⟨n,hn⟩
  exact⟨n+1,by rw[nX,h];exact hn⟩
theorem iT {σ δ:Type}{f:σ→Option (σ⊕δ)}{s:σ}{d:δ}(h:f s=I (.inr d)):bf f s=I d:=
 NE.2 ⟨1,by rw[nX,h]⟩
theorem q7b {α γ σ δ ε:Type}(l:List α)(f:σ→Option (σ⊕δ))(mk:Nat→γ→σ)(g:Nat→γ→α→γ⊕ε)(En:γ→δ)(Ex:ε→δ)(Inv:Nat→γ→Prop)
  (cN:∀s,Inv l.length s→f (mk l.length s)=I (.inr (En s)))
  (b9:∀i s x,l[i]?=I x→i<l.length→Inv i s→match g i s x with
   | .inl s'=>Inv (i+1) s'∧f (mk i s)=I (.inl (mk (i+1) s'))
   | .inr d=>f (mk i s)=I (.inr (Ex d))):
  ∀(k i:Nat) (s:γ),i+k=l.length→Inv i s→bf f (mk i s)=I (match DP g i s (l.drop i)with
   | .inl s=>En s
   | .inr d=>Ex d)
 |0,i,s,hi,hv=>by
  have fH:i=l.length:=by omega
  subst fH
  rw[List.drop_eq_nil_of_le (Nat.le_refl _),iT (cN s hv)]
  rfl
 |k+1,i,s,hi,hv=>by
  obtain⟨x,hx⟩:∃x,l[i]?=I x:=⟨_,E7 (by omega)⟩
  have hs:=b9 i s x hx (by omega) hv
  rw[qN hx]
  simp only[DP]
  cases hg:g i s x with
  |inl s'=>
   rw[hg]at hs
   obtain⟨Af,h1⟩:=hs
   rw[oo h1]
   exact q7b l f mk g En Ex Inv cN b9 k (i+1) s' (by omega) Af
  |inr d=>
   rw[hg]at hs
   rw[iT hs]
theorem q2k {α γ σ δ ε:Type}(l:List α)(f:σ→Option (σ⊕δ))(mk:Nat→γ→σ)(g:Nat→γ→α→γ⊕ε)(En:γ→δ)(Ex:ε→δ)(Inv:Nat→γ→Prop)(s:γ)
  (cN:∀s,Inv l.length s→f (mk l.length s)=I (.inr (En s)))
  (b9:∀i s x,l[i]?=I x→i<l.length→Inv i s→match g i s x with
   | .inl s'=>Inv (i+1) s'∧f (mk i s)=I (.inl (mk (i+1) s'))
   | .inr d=>f (mk i s)=I (.inr (Ex d))) (hv:Inv 0 s):
  bf f (mk 0 s)=I (match DP g 0 s l with
   | .inl s=>En s
   | .inr d=>Ex d):=by
 have:=q7b l f mk g En Ex Inv cN b9 l.length 0 s (by omega) hv
 rwa [List.drop_zero]at this
theorem VU {α ε:Type}(l:List α)(f:Int→Option (Int⊕(ε⊕Int)))(P:Nat→α→Prop)
  (cN:f (l.length:Int)=I (.inr (.inr (l.length:Int))))
  (b9:∀(i:Nat) (x:α),l[i]?=I x→(f (i:Int)=I (.inl ((i+1:Nat):Int))∧P i x)∨∃e,f (i:Int)=I (.inr (.inl e))):
  (∃e,bf f 0=I (.inl e))∨(bf f 0=I (.inr (l.length:Int))∧∀(i:Nat) (x:α),l[i]?=I x→P i x):=by
 have key:∀(k i:Nat),i+k=l.length→(∀(j:Nat) (x:α),j<i→l[j]?=I x→P j x) →
   (∃e,bf f (i:Int)=I (.inl e))∨(bf f (i:Int)=I (.inr (l.length:Int))∧∀(i:Nat) (x:α),l[i]?=I x→P i x):=by
  intro k
  induction k with
  |zero=>
   intro i hi hp
   have:i=l.length:=by omega
   subst this
   exact .inr ⟨iT cN,fun j x hx=>hp j x (E6.1 hx).1 hx⟩
  |succ k ih=>
   intro i hi hp
   obtain⟨x,hx⟩:∃x,l[i]?=I x:=⟨_,E7 (by omega)⟩
   rcases b9 i x hx with⟨h1,h2⟩|⟨e,h1⟩
   ·rw[oo h1]
    refine ih (i+1) (by omega) fun j y hj hy=>?_
    by_cases xb:j=i
    ·subst xb;rw[hx]at hy;cases hy;exact h2
    ·exact hp j y (by omega) hy
   ·exact .inl ⟨e,iT h1⟩
 exact key l.length 0 (by omega) fun j x hj=>absurd hj (by omega)
theorem jfd {ε:Type}(n:Nat)(f:Int→Option (Int⊕(ε⊕Int)))(cN:f (n:Int)=I (.inr (.inr (n:Int))))(b9:∀i:Nat,i<n→f (i:Int)=I (.inl ((i+1:Nat):Int))):bf f 0=I (.inr (n:Int)):=by
 have hl:(List.range n).length=n:=List.length_range
 rcases VU (List.range n) f (fun _ _=>True) (by rw[hl];exact cN) (fun i x hx=>.inl ⟨b9 i (by have:=(E6.1 hx).1;omega),trivial⟩)with⟨e,he⟩|⟨h,_⟩
 ·exfalso
  have key:∀(k i:Nat),i+k=n→bf f (i:Int)=I (.inr (n:Int)):=by
   intro k
   induction k with
   |zero=>
    intro i hi
    have:i=n:=by omega
    subst this
    exact iT cN
   |succ k ih=>intro i hi;rw[oo (b9 i (by omega))];exact ih (i+1) (by omega)
  have:=key n 0 (by omega)
  rw[Int.natCast_zero,he]at this
  cases this
 ·rw[h,hl]
def yp {σ δ:Type}(p:qt)(c:qe)(St:σ→qg)(Ex:δ→qo×qg)(s:σ)(r:σ⊕δ):Prop:=match r with
 | .inl s'=>∃bL,X p c (St s)=I (.normal,bL)∧gc (St s).heap.length bL=St s'
 | .inr d=>X p c (St s)=I (Ex d)
theorem vG {σ δ:Type}{p:qt}{c:qe}{St:σ→qg}{Ex:δ→qo×qg}{s s':σ}{bL:qg}(hx:X p c (St s)=I (.normal,bL))(hc:gc (St s).heap.length bL=St s'):yp p c St Ex s (.inl s'):=⟨bL,hx,hc⟩
theorem zw {σ δ:Type}{p:qt}{c:qe}{St:σ→qg}{Ex:δ→qo×qg}{s:σ}{d:δ}(hx:X p c (St s)=I (Ex d)):yp p c St Ex s (.inr d):=hx
theorem jj7 {σ δ:Type}{p:qt}{c:qe}{St:σ→qg}{Ex:δ→qo×qg}{f:σ→Option (σ⊕δ)}(hb:∀s r,f s=I r→yp p c St Ex s r)(hX:∀d,(Ex d).1≠.normal){d:δ}:
  ∀ {n:Nat} {s:σ},nX f n s=I d→X p (.loop c) (St s)=I (Ex d)
 |0,_,h=>by cases h
 |n+1,s,h=>by
  rw[nX]at h
  rw[jky]
  cases hf:f s with
  |none=>rw[hf]at h;cases h
  |some x=>
   rw[hf]at h
   have hs:=hb s x hf
   cases x with
   |inl s'=>
    obtain⟨bL,h1,h2⟩:=hs
    rw[h1,q3v,h2]
    exact jj7 hb hX h
   |inr d'=>
    cases h
    rw[show X p c (St s)=I (Ex d)from hs,jbd (hX d)]
theorem y7 {σ δ:Type}{p:qt}{c:qe}{St:σ→qg}{Ex:δ→qo×qg}{f:σ→Option (σ⊕δ)}(hb:∀s r,f s=I r→yp p c St Ex s r)(hX:∀d,(Ex d).1≠.normal){s:σ}{d:δ}(h:bf f s=I d):X p (.loop c) (St s)=I (Ex d):=by
 obtain⟨n,hn⟩:=NE.1 h
 exact jj7 hb hX hn
section
variable {h0:Nat}{al:Option (List Nat)}{h:j8}{α:Type}
def zo (l:List α)(i:Int):Option α:=if 0≤i then l[i.toNat]? else Ef
theorem jfo {l:List α}{i:Nat}:zo l (i:Int)=l[i]?:=by simp[zo]
theorem kc {z:Nat}{f:α→qa}{l:Option (List α)}{k:IntKind}{i:Int}{x:α}(hx:zo (l.getD []) i=I x):gE z h (I (sl z f l)) (I (.int k i))=I ⟨.ah (f x),E0,Ef,h⟩:=by
 unfold zo at hx
 by_cases hi:0≤i
 ·rw[if_pos hi]at hx
  obtain⟨n,rfl⟩:∃n:Nat,i=(n:Int):=⟨i.toNat,by omega⟩
  exact jpq (by simpa using hx)
 ·rw[if_neg hi]at hx;cases hx
theorem jhc {s:List UInt8}{k:IntKind}{i:Int}{c:UInt8}(hx:zo s i=I c):Ar h (I (.str s)) (I (.int k i))=I ⟨.int .u8 (c.toNat:Int),E0,Ef,h⟩:=by
 unfold zo at hx
 by_cases hi:0≤i
 ·rw[if_pos hi]at hx
  obtain⟨n,rfl⟩:∃n:Nat,i=(n:Int):=⟨i.toNat,by omega⟩
  exact jbh (by simpa using hx)
 ·rw[if_neg hi]at hx;cases hx
end
section
variable {h:j8}
end
section
variable {p:qt}{xc:XC}{h0:Nat}{al:Option (List Nat)}{e:Env}{h:j8}
def jxb (k:IntKind)(h:j8)(x:Option qa):Option qq:=match x with
 |some (.int _ n)=>val h (.int k (j6 k n))
 |_=>Ef
@[go_sem] theorem j77 {k k':IntKind}{n:Int}:jxb k h (I (.int k' n))=I ⟨.int k (j6 k n),E0,Ef,h⟩:=rfl
def q2m (h:j8)(x:Option qa):Option qq:=match x with
 |some (.str s)=>val h (.str s)
 |some (.int _ n)=>val h (.str (Utf8.encode n).data.toList)
 |_=>Ef
@[go_sem] theorem jo2 {k:IntKind}{n:Int}:q2m h (I (.int k n))=I ⟨.str (Utf8.encode n).data.toList,E0,Ef,h⟩:=rfl
@[go_sem] theorem jqs {s:List UInt8}:q2m h (I (.str s))=I ⟨.str s,E0,Ef,h⟩:=rfl
def Hz (h:j8)(x:Option qa):Option qq:=match x with
 |some (.ptr b o)=>val h (.ptr b o)
 |some (.ah v)=>val h (.ah v)
 |some (.fn (.func f) a b)=>val h (.fn (.func f) a b)
 |_=>Ef
@[go_sem] theorem jrq {b o:Nat}:Hz h (I (.ptr b o))=I ⟨.ptr b o,E0,Ef,h⟩:=rfl
@[go_sem] theorem jnq {v:qa}:Hz h (I (.ah v))=I ⟨.ah v,E0,Ef,h⟩:=rfl
@[go_sem] theorem jvp {f:Nat}{a b:List qa}:Hz h (I (.fn (.func f) a b))=I ⟨.fn (.func f) a b,E0,Ef,h⟩:=rfl
@[go_sem] theorem j5k {x:qh}:j9 p xc h0 al e h (.nilCheck x)=Hz h (zc e x):=by
 simp only[j9,zh,Hz];rfl
def VW (agg:Bool)(off n:Nat)(h:j8)(x:Option qa):Option qq:=match x with
 |some (.agg cs)=>fW h (Go.Abs.part agg cs off n)
 |_=>Ef
@[go_sem] theorem jy7 {agg:Bool}{off n:Nat}{cs:List qa}:VW agg off n h (I (.agg cs))=fW h (Go.Abs.part agg cs off n):=rfl
@[go_sem] theorem zjf {agg:Bool}{off n:Nat}{x:qh}:j9 p xc h0 al e h (.field agg off n x)=VW agg off n h (zc e x):=by
 simp only[j9,zh,VW]
 cases zc e x with
 |none=>rfl
 |some v=>cases v<;>rfl
def zjv (agg:Bool)(len n:Nat)(h:j8)(x i:Option qa):Option qq:=match x,i with
 |some (.agg cs),I j=>(match idx len j with
  |some j=>fW h (Go.Abs.part agg cs (j*n) n)
  |none=>Ef)
 |_,_=>Ef
end
section
variable {p:qt}{xc:XC}{h0:Nat}{al:Option (List Nat)}{e:Env}{h:j8}{α:Type}
def qU (n lg:Nat):Option Int→Option Nat
 |none=>I lg
 |some i=>if 0≤i∧i≤n then I i.toNat else Ef
def ND (s:List α)(lo hi:Option Int):Option (List α):=match qU s.length s.length hi with
 |some j=>(match qU j 0 lo with
  |some i=>I ((s.take j).drop i)
  |none=>Ef)
 |none=>Ef
def xu (o:Option (List α))(lo hi:Option Int):Option (Option (List α)):=match ND (o.getD []) lo hi with
 |some l=>I (o.map fun _=>l)
 |none=>Ef
def qV (lg n:Nat):Option (Option qa)→Option Nat
 |none=>I lg
 |some (I v)=>yX n v
 |some Ef=>Ef
theorem jxp {lg n:Nat}{x:Option qh}:eT e lg n x=qV lg n (x.map (zc e)):=by
 cases x with
 |none=>rfl
 |some x=>simp only[eT,Gz,qV];cases zc e x<;>rfl
theorem jni {n d:Nat}{k:IntKind}{i:Int}:yX n (.int k i)=qU n d (I i):=by
 unfold yX qU
 cases i with
 |ofNat m=>
  simp only[]
  by_cases hm:m≤n
  ·rw[if_pos ⟨by simp,by simpa using hm⟩,Nat.ble_eq_true_of_le hm];rfl
  ·rw[if_neg (by simp;omega)]
   cases hb:Gd m n with
   |true=>exact absurd (Nat.le_of_ble_eq_true hb) hm
   |false=>rfl
 |negSucc m=>simp
def VX (k:IntKind):Option Int→Option (Option qa)
 |none=>Ef
 |some i=>I (I (.int k i))
theorem jcg {d n:Nat}{k:IntKind}{x:Option Int}:qV d n (VX k x)=qU n d x:=by
 cases x with
 |none=>rfl
 |some i=>exact jni
def mQ (sz:Nat)(h:j8)(x:Option qa)(lo hi:Option (Option qa)):Option qq:=match x with
 |some (.list n cK xs)=>bif Gb sz cK||xs.isEmpty then(match qV xs.length xs.length hi with
  |some j=>(match qV 0 j lo with
   |some i=>val h (.list n cK ((xs.take j).drop i))
   |none=>Ef)
  |none=>Ef)else Ef
 |some (.ms b o len)=>(match qV len len hi with
  |some j=>(match qV 0 j lo with
   |some i=>bif Gb i 0||Nat.blt i j then val h (.ms b (o+i*sz) (j-i))else Ef
   |none=>Ef)
  |none=>Ef)
 |some (.ak b bz len)=>(match qV len len hi with
  |some j=>(match qV 0 j lo with
   |some i=>bif Gb i 0 then val h (.ak b bz j)else Ef
   |none=>Ef)
  |none=>Ef)
 |_=>Ef
attribute [go_sem] Option.map_some Option.map_none
@[go_sem] theorem zit {sz:Nat}{x:qh}{lo hi:Option qh}:j9 p xc h0 al e h (.slice sz x lo hi)=mQ sz h (zc e x) (lo.map (zc e)) (hi.map (zc e)):=by
 simp only[j9,zh,mQ,jxp]
 cases zc e x with
 |none=>rfl
 |some v=>cases v<;>rfl
theorem j6g {z:Nat}{k k':IntKind}{f:α→qa}{o v:Option (List α)}{lo hi:Option Int}(hv:xu o lo hi=I v):mQ z h (I (sl z f o)) (VX k lo) (VX k' hi)=I ⟨sl z f v,E0,Ef,h⟩:=by
 unfold xu ND at hv
 cases o with
 |none=>
  simp only[sl,mQ,Ge,E9,cT,jcg]
  simp only[Gm]at hv
  cases h1:qU ([]:List α).length ([]:List α).length hi with
  |none=>rw[h1]at hv;cases hv
  |some j=>
   rw[h1]at hv
   simp only[]at hv
   cases h2:qU j 0 lo with
   |none=>rw[h2]at hv;cases hv
   |some i=>
    rw[h2]at hv
    cases hv
    simp only[E4]at h1
    simp only[E4,h1,h2,List.take_nil,List.drop_nil]
    rfl
 |some l=>
  simp only[sl,mQ,M0,decide_true,Gc,cT,jcg,Ga]
  simp only[Gy]at hv
  cases h1:qU l.length l.length hi with
  |none=>rw[h1]at hv;cases hv
  |some j=>
   rw[h1]at hv
   simp only[]at hv
   cases h2:qU j 0 lo with
   |none=>rw[h2]at hv;cases hv
   |some i=>
    rw[h2]at hv
    cases hv
    simp only[h2,val,Gz,List.map_drop,List.map_take]
theorem jl4 {z:Nat}{k:IntKind}{f:α→qa}{o v:Option (List α)}{hi:Int}(hv:xu o Ef (I hi)=I v):mQ z h (I (sl z f o)) Ef (I (I (.int k hi)))=I ⟨sl z f v,E0,Ef,h⟩:=j6g (k:=k) hv
end
section
variable {h:j8}{α:Type}
def D1 (o:Option (List α))(ys:List α):Option (List α):=match o,ys with
 |none,[]=>Ef
 |o,ys=>I (o.getD []++ys)
def bh (o:Option (List α))(ys:List α):Option (Option (List α)):=if(o.getD []).length+ys.length≤1073741824 then I (D1 o ys)else Ef
theorem VY {z b:Nat}{own:Option Nat}{f:α→qa}{o:Option (List α)}{ys:List α}{v:Option (List α)}{y:qa}(hz:0<z)(hb:b≤4096)(hy:kj z y=I (ys.map f))(hv:bh o ys=I v)
  (ho:o=Ef∨own.isSome=E1):bE z b h own (I (sl z f o)) (I y)=I ⟨sl z f v,E1,own,h⟩:=by
 unfold bh at hv
 by_cases hl:(o.getD []).length+ys.length≤1073741824
 ·rw[if_pos hl]at hv;cases hv
  cases o with
  |none=>
   simp only[sl,bE,bE.gT,hy,bT,Gc,Ge,Ha,E9,E4,Ga,mP,uC,hz,hb,decide_true]
   simp only[Gm,E4]at hl
   simp only[hl,decide_true,Hb,E9]
   cases ys with
   |nil=>rfl
   |cons y ys=>simp[pF,D1,sl]
  |some l=>
   have xd:own.isSome=E1:=by rcases ho with h|h;cases h;exact h
   simp only[sl,bE,bE.gT,hy,bT,xd,E9,M0,mP,uC,hz,hb,decide_true,Gc,Ga]
   simp only[Gy]at hl
   simp only[hl,decide_true,Hb]
   simp[pF,D1,sl]
 ·rw[if_neg hl]at hv;cases hv
theorem jhs {z b t:Nat}{f:α→qa}{o o2 v:Option (List α)}(hv:bh o (o2.getD [])=I v):bE (z+1) b h (I t) (I (sl (z+1) f o)) (I (sl (z+1) f o2))=bT (decide (b≤4096)) (I ⟨sl (z+1) f v,E1,I t,h⟩):=by
 by_cases hb:b≤4096
 ·rw[VY (by omega) hb Uy hv (.inr rfl)];simp[bT,hb]
 ·have eV:decide (b≤4096)=E0:=by simp[hb]
  rw[eV]
  cases o with
  |none=>simp[sl,bE,bE.gT,bT,hb,mP];split<;>rfl
  |some l=>simp[sl,bE,bE.gT,bT,hb,mP];split<;>rfl
theorem uG {z b t:Nat}{f:α→qa}{x:α}{y:qa}{o v:Option (List α)}(hz:0<z)(hy:kj z y=I [f x])(hv:bh o [x]=I v):bE z b h (I t) (I (sl z f o)) (I y)=bT (decide (b≤4096)) (I ⟨sl z f v,E1,I t,h⟩):=by
 by_cases hb:b≤4096
 ·rw[VY hz hb hy hv (.inr rfl)];simp[bT,hb]
 ·have eV:decide (b≤4096)=E0:=by simp[hb]
  rw[eV]
  cases o with
  |none=>simp[sl,bE,bE.gT,bT,hb,hy,mP]
  |some l=>simp[sl,bE,bE.gT,bT,hb,hy,mP]
theorem jb8 {z b t:Nat}{f:α→qa}{o2 v:Option (List α)}(hv:bh (I []) (o2.getD [])=I v):bE (z+1) b h (I t) (I (.list E0 (z+1) [])) (I (sl (z+1) f o2))=bT (decide (b≤4096)) (I ⟨sl (z+1) f v,E1,I t,h⟩):=
 jhs (o:=I []) hv
end
def qae (s:List UInt8):qa:=.str s
@[go_sem] theorem jzo {h0:Nat}{al:Option (List Nat)}{h:j8}{b:List UInt8}:eH h0 al E0 1 h (I (.ah (qae b)))=I ⟨.str b,E0,Ef,h⟩:=rfl
@[go_sem] theorem j4d {n z:Nat}{l:Option (List (List UInt8))}:below n (sl z qae l)=E1:=uA fun _=>rfl
theorem jaf {b t:Nat}{h:j8}{bb:Bool}{x:Int}{o v:Option (List Int)}(hv:bh o [x]=I v):bE 1 b h (I t) (I (sl 1 kr o)) (I (.list bb 1 [.int .i64 x]))=bT (decide (b≤4096)) (I ⟨sl 1 kr v,E1,I t,h⟩):=uG (by omega) rfl hv
theorem q8a {b t:Nat}{h:j8}{bb:Bool}{x:List UInt8}{o v:Option (List (List UInt8))}(hv:bh o [x]=I v):bE 1 b h (I t) (I (sl 1 qae o)) (I (.list bb 1 [.str x]))=bT (decide (b≤4096)) (I ⟨sl 1 qae v,E1,I t,h⟩):=uG (by omega) rfl hv
theorem qzj {p:qt}{xc:XC}{k:Nat}{args:List qa}{v v':qa}{o:Bool}{h:j8}(hp:p.cq k=Ef)(hc:zf p xc k args []=I (v,o,h))(hz:aC h v=I v')(hv:below 0 v'=E1)(hl:v.cu=E1):jy p xc k args=I (v',o):=by
 rw[ko hp hc hz hv,hl,Ha]
section
variable {p:qt}{xc:XC}{h0:Nat}{al:Option (List Nat)}{e:Env}{h:j8}{α:Type}
def uS (h0 r sz bytes:Nat)(zero:List qa)(h:j8)(n c:Option qa):Option qq:=match n,c with
 |some (.int .i64 (.ofNat n)),I (.int .i64 (.ofNat c))=>
  bif Gb n c&&Gd n 1073741824&&Gd bytes 4096&&Gb zero.length sz&&Nat.blt 0 sz&&zero.all ze then
   (match aJ h0 h r (.cells (cellsOf (List.replicate n zero).flatten))with
    |some h'=>val h' (.ms (h0+r) 0 n)
    |none=>Ef)else Ef
 |_,_=>Ef
@[go_sem] theorem zi7 {r sz b:Nat}{z:List qa}{n c:qh}:j9 p xc h0 al e h (.bW (I r) sz b z n c)=uS h0 r sz b z h (zc e n) (zc e c):=by
 simp only[j9,zj,uS]
 rfl
def A8 (h0 r sz bytes:Nat)(h:j8)(own:Option Nat)(x y:Option qa):Option qq:=match x,y with
 |some (.list E0 cK []),I vy=>
  bif own.isSome&&Gb sz cK then
   (match kj sz vy with
    |some ys=>
     bif Gd ys.length 1073741824&&Gd bytes 4096&&Nat.blt 0 sz then
      (match aJ h0 h r (.cells (cellsOf (ys.flatMap qa.flat)))with
       |some h'=>I ⟨.ms (h0+r) 0 ys.length,E0,own,h'⟩
       |none=>Ef)
     else Ef
    |none=>Ef)
  else Ef
 |_,_=>Ef
@[go_sem] theorem j81 {r sz b:Nat}{x y:qh}:j9 p xc h0 al e h (.append (I r) sz b x y)=A8 h0 r sz b h (kg e x) (zc e x) (zc e y):=by
 simp only[j9,zj,A8]
 rfl
def jre (own:Option Nat)(v:qa)(r:Option j8):Option qq:=match r with
 |some h'=>I ⟨v,E0,own,h'⟩
 |none=>Ef
@[go_sem] theorem jvc {own:Option Nat}{v:qa}:jre own v (I h)=I ⟨v,E0,own,h⟩:=rfl
def NF (c:Option (List (qa×Bool)))(off len:Nat):Option qa:=match c with
 |some cs=>bif Dc off len cs then I (.list E0 (cs.length / len) (lV (cs.length / len) len (cs.map (·.1))))else(match y8 cs off len with
  |some vs=>I (.list E0 1 vs)
  |none=>Ef)
 |none=>Ef
@[go_sem] theorem Eg {b o n:Nat}:aC h (.ms b o n)=NF (ym h b) o n:=by
 simp only[aC,iB,NF];rfl
@[go_sem] theorem j57 {z:Nat}{f:α→qa}{o:Option (List α)}:UE 0 E0 h (I (sl z f o))=I ⟨.bool o.isNone,E0,Ef,h⟩:=by cases o<;>rfl
theorem uH {z b:Nat}{f:α→qa}{x:α}{y:qa}{o v:Option (List α)}(hz:0<z)(hy:kj z y=I [f x])(hn:o.isNone=E1)(hv:bh o [x]=I v):bE z b h Ef (I (sl z f o)) (I y)=bT (decide (b≤4096)) (I ⟨sl z f v,E1,Ef,h⟩):=by
 cases o with
 |some l=>cases hn
 |none=>
  by_cases hb:b≤4096
  ·rw[VY hz hb hy hv (.inl rfl)];simp[bT,hb]
  ·have eV:decide (b≤4096)=E0:=by simp[hb]
   rw[eV]
   simp[sl,bE,bE.gT,bT,hb,hy,mP]
theorem q8m {b:Nat}{bb:Bool}{x:Int}{o v:Option (List Int)}(hv:bh o [x]=I v)(hn:o.isNone=E1):bE 1 b h Ef (I (sl 1 kr o)) (I (.list bb 1 [.int .i64 x]))=bT (decide (b≤4096)) (I ⟨sl 1 kr v,E1,Ef,h⟩):=uH (by omega) rfl hn hv
attribute [go_sem] Nat.le_refl
end
@[go_sem] theorem zkh {h:j8}{a b c d:Int}:GI [.int,.int] E1 h (I (.agg [.int .i64 a,.int .i64 b])) (I (.agg [.int .i64 c,.int .i64 d]))=I ⟨.bool (!(decide (a=c)&&decide (b=d))),E0,Ef,h⟩:=by
 show(match ky [.int,.int] [.int .i64 a,.int .i64 b] [.int .i64 c,.int .i64 d]with|some t=>val h (.bool (bif E1 then !t else t))|none=>Ef)=_
 have:ky [.int,.int] [.int .i64 a,.int .i64 b] [.int .i64 c,.int .i64 d]=I (decide (a=c)&&decide (b=d)):=by
  have e:∀x y:Int,(x == y)=decide (x=y):=fun x y=>by by_cases h:x=y<;>simp[h]
  simp only[ky,kY,e,decide_true,cT]
  by_cases h1:a=c<;>by_cases h2:b=d<;>simp[h1,h2]
 rw[this]
 rfl
section
variable {p:qt}{xc:XC}{h0:Nat}{al:Option (List Nat)}{e:Env}{h:j8}
end
noncomputable def mb (p:qt)(more:vh)(op:Nat→Bool):qt:={ bj:=p.bj,dl:=p.dl,maps:=p.maps,cq:=fun k=>bif op k then Ef else match more k with
 |some f=>I f
 |none=>bif (p.bj k).isSome||(p.cq k).isSome||(p.dl k).isSome then I fun args=>jy p (X p) k args else Ef }
theorem q01 {p:qt}{xc:XC}{k:Nat}{args:List qa}{r:qa×Bool}(h:jy p xc k args=I r):((p.bj k).isSome||(p.cq k).isSome||(p.dl k).isSome)=E1:=by
 unfold jy at h
 split at h
 ·rename_i f hf;simp[hf]
 ·split at h
  ·rename_i hc
   unfold zf at hc
   split at hc
   ·rename_i f hf;simp[hf]
   ·split at hc
    ·rename_i f hf;simp[hf]
    ·cases hc
  ·cases h
theorem q8b {p:qt}{more:vh}{op:Nat→Bool}{k:Nat}(ho:op k=E0)(hm:more k=Ef){xc:XC}{args:List qa}{v:qa}{o:Bool}(h:jy p (X p) k args=I (v,o))(hv:lU v=E1):jy (mb p more op) xc k args=I (v,o):=by
 have hk:=q01 h
 unfold jy
 have:(mb p more op).cq k=I fun args=>jy p (X p) k args:=by simp only[mb,ho,cond_false,hm,hk,cT]
 rw[this]
 simp only[h,hv,cT]
theorem q7j {p:qt}{more:vh}{op:Nat→Bool}{k:Nat}{f:List qa→Option (qa×Bool)}(ho:op k=E0)(hm:more k=I f){xc:XC}{args:List qa}{v:qa}{o:Bool}(h:f args=I (v,o))(hv:lU v=E1):jy (mb p more op) xc k args=I (v,o):=by
 unfold jy
 have:(mb p more op).cq k=I f:=by simp only[mb,ho,cond_false,hm]
 rw[this]
 simp only[h,hv,cT]
theorem jds {P:Program}{p:qt}{more:vh}{op:Nat→Bool}(hp:qx P p)(hm:∀k f,more k=I f→Enters P k∧∀args v o,f args=I (v,o)→lU v=E1→zu 0 args=E1→IsoCall P k args v o):qx P (mb p more op) where
 fn:=hp.fn
 maps:=hp.maps
 gG:=by
  intro k f hf
  cases ho:op k with
  |true=>
   have:(mb p more op).cq k=Ef:=by simp only[mb,ho,cT]
   rw[this]at hf;cases hf
  |false=>
  cases xj:more k with
  |some g=>
   have:(mb p more op).cq k=I g:=by simp only[mb,ho,cond_false,xj]
   rw[this]at hf
   cases hf
   exact hm k _ xj
  |none=>
   cases hk:((p.bj k).isSome||(p.cq k).isSome||(p.dl k).isSome)with
   |false=>
    have:(mb p more op).cq k=Ef:=by simp only[mb,ho,xj,hk,cond_false]
    rw[this]at hf;cases hf
   |true=>
    have:(mb p more op).cq k=I fun args=>jy p (X p) k args:=by simp only[mb,ho,cond_false,xj,hk,cT]
    rw[this]at hf
    cases hf
    refine⟨?_,fun args v o h _ hb=>q3z hp h hb⟩
    simp only[Bool.or_eq_true]at hk
    rcases hk with(h|h)|h
    ·obtain⟨af,ha⟩:=E3.1 h
     exact hp.enters ha
    ·obtain⟨g,hg⟩:=E3.1 h
     exact(hp.gG k g hg).1
    ·obtain⟨g,hg⟩:=E3.1 h
     exact(hp.fD k g hg).1
 mixed:=hp.mixed
 fD:=hp.fD
theorem il {i:Nat}(h:i<9223372036854775807):j6 .i64 ((i:Int)+1)=((i+1:Nat):Int):=by
 rw[q0d (by omega) (by omega)];rfl
variable {h:j8}
theorem jqx {b pos:Nat}{s:List UInt8}(hp:decide (pos<s.length)=E1):uE h b (I (.iter s pos))=gS (yl h b (.iter s (pos+(zg s pos).2))) (.aB [.bool E1,.int .i64 pos,.int .i32 (zg s pos).1]):=jh2 (of_decide_eq_true hp)
theorem jot {b pos:Nat}{s:List UInt8}(hp:decide (pos<s.length)=E0):uE h b (I (.iter s pos))=I ⟨.aB [.bool E0],E0,Ef,h⟩:=jdb (of_decide_eq_false hp)
end Go.Z
