/- Functions in Option that mirror the machine's runs. -/
import Derived.Test.YtfopaakmgogpiaaGreatDoorL1
set_option linter.unusedVariables false
set_option linter.unusedSimpArgs false
set_option maxRecDepth 100000
open Option renaming some→I,none→Eh,isSome_iff_exists→Ev,getD_none→Gl,getD_some→Gm,map_some→Gn
open Bool renaming false→El,true→Eo,or_true→Ga,true_or→Gh,and_true→Gp,and_self→Gx
open List renaming length_nil→E5,getElem?_eq_some_iff→E6,getElem?_eq_getElem→E7,length_map→Gb,isEmpty_nil→Gk
open Nat renaming beq→Gc,ble→Gi
namespace Go.Z
open Go Go.Abs
def jx {α β:Type}(x:Option α)(f:α→Option β):Option β:=match x with
 |some a=>f a
 |none=>Eh
@[simp] theorem Vv {α β:Type}{a:α}{f:α→Option β}:jx (I a) f=f a:=rfl
@[simp] theorem j9c {α β:Type}{f:α→Option β}:jx Eh f=Eh:=rfl
theorem jy {α β:Type}{x:Option α}{f:α→Option β}{r:β}(h:jx x f=I r):∃a,x=I a∧f a=I r:=by
 cases x with
 |none=>cases h
 |some a=>exact⟨a,rfl,h⟩
theorem j6 {α:Type}{c:Bool}{a b r:α}(h:cond c a b=r):(c=Eo∧a=r)∨(c=El∧b=r):=by
 cases c
 ·exact .inr ⟨rfl,h⟩
 ·exact .inl ⟨rfl,h⟩
def nU {σ δ:Type}(f:σ→Option (σ⊕δ)):Nat→σ→Option δ
 |0,_=>Eh
 |n+1,s=>match f s with
  |none=>Eh
  |some (.inl s')=>nU f n s'
  |some (.inr d)=>I d
theorem q3q {σ δ:Type}{f:σ→Option (σ⊕δ)}{d:δ}:∀ {n:Nat} {s:σ},nU f n s=I d→nU f (n+1) s=I d
 |0,_,h=>by cases h
 |n+1,s,h=>by
  rw[nU]at h ⊢
  cases hf:f s with
  |none=>rw[hf]at h;cases h
  |some x=>
   rw[hf]at h
   cases x with
   |inl s'=>exact q3q h
   |inr d'=>exact h
theorem ja7 {σ δ:Type}{f:σ→Option (σ⊕δ)}{d:δ}{n m:Nat}{s:σ}(hm:n≤m)(h:nU f n s=I d):nU f m s=I d:=by
 induction hm with
 |refl=>exact h
 |step _ ih=>exact q3q ih
open Classical in
noncomputable def bj {σ δ:Type}(f:σ→Option (σ⊕δ))(s:σ):Option δ:=
 if h:∃d n,nU f n s=I d then I (Classical.choose h)else Eh
theorem NT {σ δ:Type}{f:σ→Option (σ⊕δ)}{s:σ}{d:δ}:bj f s=I d↔∃n,nU f n s=I d:=by
 unfold bj
 constructor
 ·intro h
  split at h
  ·rename_i hh;cases h;exact Classical.choose_spec hh
  ·cases h
 ·rintro ⟨n,hn⟩
  have hh:∃d n,nU f n s=I d:=⟨d,n,hn⟩
  rw[dif_pos hh]
  obtain⟨m,hm⟩:=Classical.choose_spec hh
  have h1:=ja7 (Nat.le_max_left n m) hn
  have h2:=ja7 (Nat.le_max_right n m) hm
  rw[h1]at h2
  exact h2.symm
theorem pi {σ δ:Type}{f:σ→Option (σ⊕δ)}{s s':σ}(h:f s=I (.inl s')):bj f s=bj f s':=by
 apply Option.ext
 intro d
 rw[NT,NT]
 constructor
 ·rintro ⟨n,hn⟩
  cases n with
  |zero=>cases hn
  |succ n=>rw[nU,h]at hn;exact⟨n,hn⟩
 ·rintro ⟨n,hn⟩
  exact⟨n+1,by rw[nU,h];exact hn⟩
theorem jO {σ δ:Type}{f:σ→Option (σ⊕δ)}{s:σ}{d:δ}(h:f s=I (.inr d)):bj f s=I d:=
 NT.2 ⟨1,by rw[nU,h]⟩
theorem q5z {α γ σ δ ε:Type}(l:List α)(f:σ→Option (σ⊕δ))(mk:Nat→γ→σ)(g:Nat→γ→α→γ⊕ε)(En:γ→δ)(Ex:ε→δ)(Inv:Nat→γ→Prop)
  (cN:∀s,Inv l.length s→f (mk l.length s)=I (.inr (En s)))
  (b9:∀i s x,l[i]?=I x→i<l.length→Inv i s→match g i s x with
   | .inl s'=>Inv (i+1) s'∧f (mk i s)=I (.inl (mk (i+1) s'))
   | .inr d=>f (mk i s)=I (.inr (Ex d))):
  ∀(k i:Nat) (s:γ),i+k=l.length→Inv i s→bj f (mk i s)=I (match DT g i s (l.drop i)with
   | .inl s=>En s
   | .inr d=>Ex d)
 |0,i,s,hi,hv=>by
  have fH:i=l.length:=by omega
  subst fH
  rw[List.drop_eq_nil_of_le (Nat.le_refl _),jO (cN s hv)]
  rfl
 |k+1,i,s,hi,hv=>by
  obtain⟨x,hx⟩:∃x,l[i]?=I x:=⟨_,E7 (by omega)⟩
  have hs:=b9 i s x hx (by omega) hv
  rw[uP hx]
  simp only[DT]
  cases hg:g i s x with
  |inl s'=>
   rw[hg]at hs
   obtain⟨Ak,h1⟩:=hs
   rw[pi h1]
   exact q5z l f mk g En Ex Inv cN b9 k (i+1) s' (by omega) Ak
  |inr d=>
   rw[hg]at hs
   rw[jO hs]
theorem q26 {α γ σ δ ε:Type}(l:List α)(f:σ→Option (σ⊕δ))(mk:Nat→γ→σ)(g:Nat→γ→α→γ⊕ε)(En:γ→δ)(Ex:ε→δ)(Inv:Nat→γ→Prop)(s:γ)
  (cN:∀s,Inv l.length s→f (mk l.length s)=I (.inr (En s)))
  (b9:∀i s x,l[i]?=I x→i<l.length→Inv i s→match g i s x with
   | .inl s'=>Inv (i+1) s'∧f (mk i s)=I (.inl (mk (i+1) s'))
   | .inr d=>f (mk i s)=I (.inr (Ex d))) (hv:Inv 0 s):
  bj f (mk 0 s)=I (match DT g 0 s l with
   | .inl s=>En s
   | .inr d=>Ex d):=by
 have:=q5z l f mk g En Ex Inv cN b9 l.length 0 s (by omega) hv
 rwa [List.drop_zero]at this
theorem VF {α ε:Type}(l:List α)(f:Int→Option (Int⊕(ε⊕Int)))(P:Nat→α→Prop)
  (cN:f (l.length:Int)=I (.inr (.inr (l.length:Int))))
  (b9:∀(i:Nat) (x:α),l[i]?=I x→(f (i:Int)=I (.inl ((i+1:Nat):Int))∧P i x)∨∃e,f (i:Int)=I (.inr (.inl e))):
  (∃e,bj f 0=I (.inl e))∨(bj f 0=I (.inr (l.length:Int))∧∀(i:Nat) (x:α),l[i]?=I x→P i x):=by
 have key:∀(k i:Nat),i+k=l.length→(∀(j:Nat) (x:α),j<i→l[j]?=I x→P j x) →
   (∃e,bj f (i:Int)=I (.inl e))∨(bj f (i:Int)=I (.inr (l.length:Int))∧∀(i:Nat) (x:α),l[i]?=I x→P i x):=by
  intro k
  induction k with
  |zero=>
   intro i hi hp
   have:i=l.length:=by omega
   subst this
   exact .inr ⟨jO cN,fun j x hx=>hp j x (E6.1 hx).1 hx⟩
  |succ k ih=>
   intro i hi hp
   obtain⟨x,hx⟩:∃x,l[i]?=I x:=⟨_,E7 (by omega)⟩
   rcases b9 i x hx with⟨h1,h2⟩|⟨e,h1⟩
   ·rw[pi h1]
    refine ih (i+1) (by omega) fun j y hj hy=>?_
    by_cases oV:j=i
    ·subst oV;rw[hx]at hy;cases hy;exact h2
    ·exact hp j y (by omega) hy
   ·exact .inl ⟨e,jO h1⟩
 exact key l.length 0 (by omega) fun j x hj=>absurd hj (by omega)
theorem jc2 {ε:Type}(n:Nat)(f:Int→Option (Int⊕(ε⊕Int)))(cN:f (n:Int)=I (.inr (.inr (n:Int))))(b9:∀i:Nat,i<n→f (i:Int)=I (.inl ((i+1:Nat):Int))):bj f 0=I (.inr (n:Int)):=by
 have hl:(List.range n).length=n:=List.length_range
 rcases VF (List.range n) f (fun _ _=>True) (by rw[hl];exact cN) (fun i x hx=>.inl ⟨b9 i (by have:=(E6.1 hx).1;omega),trivial⟩)with⟨e,he⟩|⟨h,_⟩
 ·exfalso
  have key:∀(k i:Nat),i+k=n→bj f (i:Int)=I (.inr (n:Int)):=by
   intro k
   induction k with
   |zero=>
    intro i hi
    have:i=n:=by omega
    subst this
    exact jO cN
   |succ k ih=>intro i hi;rw[pi (b9 i (by omega))];exact ih (i+1) (by omega)
  have:=key n 0 (by omega)
  rw[Int.natCast_zero,he]at this
  cases this
 ·rw[h,hl]
def y5 {σ δ:Type}(p:qr)(c:qg)(St:σ→qh)(Ex:δ→qo×qh)(s:σ)(r:σ⊕δ):Prop:=match r with
 | .inl s'=>∃bK,X p c (St s)=I (.normal,bK)∧gc (St s).heap.length bK=St s'
 | .inr d=>X p c (St s)=I (Ex d)
theorem DW {σ δ:Type}{p:qr}{c:qg}{St:σ→qh}{Ex:δ→qo×qh}{s s':σ}{bK:qh}(hx:X p c (St s)=I (.normal,bK))(hc:gc (St s).heap.length bK=St s'):y5 p c St Ex s (.inl s'):=⟨bK,hx,hc⟩
theorem z6 {σ δ:Type}{p:qr}{c:qg}{St:σ→qh}{Ex:δ→qo×qh}{s:σ}{d:δ}(hx:X p c (St s)=I (Ex d)):y5 p c St Ex s (.inr d):=hx
theorem ji4 {σ δ:Type}{p:qr}{c:qg}{St:σ→qh}{Ex:δ→qo×qh}{f:σ→Option (σ⊕δ)}(hb:∀s r,f s=I r→y5 p c St Ex s r)(hX:∀d,(Ex d).1≠.normal){d:δ}:
  ∀ {n:Nat} {s:σ},nU f n s=I d→X p (.loop c) (St s)=I (Ex d)
 |0,_,h=>by cases h
 |n+1,s,h=>by
  rw[nU]at h
  rw[jld]
  cases hf:f s with
  |none=>rw[hf]at h;cases h
  |some x=>
   rw[hf]at h
   have hs:=hb s x hf
   cases x with
   |inl s'=>
    obtain⟨bK,h1,h2⟩:=hs
    rw[h1,q3d,h2]
    exact ji4 hb hX h
   |inr d'=>
    cases h
    rw[show X p c (St s)=I (Ex d)from hs,ja9 (hX d)]
theorem kl {σ δ:Type}{p:qr}{c:qg}{St:σ→qh}{Ex:δ→qo×qh}{f:σ→Option (σ⊕δ)}(hb:∀s r,f s=I r→y5 p c St Ex s r)(hX:∀d,(Ex d).1≠.normal){s:σ}{d:δ}(h:bj f s=I d):X p (.loop c) (St s)=I (Ex d):=by
 obtain⟨n,hn⟩:=NT.1 h
 exact ji4 hb hX hn
section
variable {h0:Nat}{al:Option (List Nat)}{h:j8}{α:Type}
def zq (l:List α)(i:Int):Option α:=if 0≤i then l[i.toNat]? else Eh
theorem jgl {l:List α}{i:Nat}:zq l (i:Int)=l[i]?:=by simp[zq]
theorem ky {z:Nat}{f:α→qa}{l:Option (List α)}{k:IntKind}{i:Int}{x:α}(hx:zq (l.getD []) i=I x):jL z h (I (sl z f l)) (I (.int k i))=I ⟨.ah (f x),El,Eh,h⟩:=by
 unfold zq at hx
 by_cases hi:0≤i
 ·rw[if_pos hi]at hx
  obtain⟨n,rfl⟩:∃n:Nat,i=(n:Int):=⟨i.toNat,by omega⟩
  exact jqt (by simpa using hx)
 ·rw[if_neg hi]at hx;cases hx
theorem jhn {s:List UInt8}{k:IntKind}{i:Int}{c:UInt8}(hx:zq s i=I c):AA h (I (.str s)) (I (.int k i))=I ⟨.int .u8 (c.toNat:Int),El,Eh,h⟩:=by
 unfold zq at hx
 by_cases hi:0≤i
 ·rw[if_pos hi]at hx
  obtain⟨n,rfl⟩:∃n:Nat,i=(n:Int):=⟨i.toNat,by omega⟩
  exact jb1 (by simpa using hx)
 ·rw[if_neg hi]at hx;cases hx
end
section
variable {h:j8}
end
section
variable {p:qr}{xc:XC}{h0:Nat}{al:Option (List Nat)}{e:Env}{h:j8}
def j4h (k:IntKind)(h:j8)(x:Option qa):Option qq:=match x with
 |some (.int _ n)=>val h (.int k (j9 k n))
 |_=>Eh
@[go_sem] theorem j6p {k k':IntKind}{n:Int}:j4h k h (I (.int k' n))=I ⟨.int k (j9 k n),El,Eh,h⟩:=rfl
def q22 (h:j8)(x:Option qa):Option qq:=match x with
 |some (.str s)=>val h (.str s)
 |some (.int _ n)=>val h (.str (Utf8.encode n).data.toList)
 |_=>Eh
@[go_sem] theorem jp4 {k:IntKind}{n:Int}:q22 h (I (.int k n))=I ⟨.str (Utf8.encode n).data.toList,El,Eh,h⟩:=rfl
@[go_sem] theorem jtm {s:List UInt8}:q22 h (I (.str s))=I ⟨.str s,El,Eh,h⟩:=rfl
def HL (h:j8)(x:Option qa):Option qq:=match x with
 |some (.ptr b o)=>val h (.ptr b o)
 |some (.ah v)=>val h (.ah v)
 |some (.fn (.func f) a b)=>val h (.fn (.func f) a b)
 |_=>Eh
@[go_sem] theorem jrp {b o:Nat}:HL h (I (.ptr b o))=I ⟨.ptr b o,El,Eh,h⟩:=rfl
@[go_sem] theorem jng {v:qa}:HL h (I (.ah v))=I ⟨.ah v,El,Eh,h⟩:=rfl
@[go_sem] theorem ju2 {f:Nat}{a b:List qa}:HL h (I (.fn (.func f) a b))=I ⟨.fn (.func f) a b,El,Eh,h⟩:=rfl
@[go_sem] theorem jyc {x:qf}:za p xc h0 al e h (.nilCheck x)=HL h (zd e x):=by
 simp only[za,zi,HL];rfl
def VM (agg:Bool)(off n:Nat)(h:j8)(x:Option qa):Option qq:=match x with
 |some (.agg cs)=>fY h (Go.Abs.part agg cs off n)
 |_=>Eh
@[go_sem] theorem j33 {agg:Bool}{off n:Nat}{cs:List qa}:VM agg off n h (I (.agg cs))=fY h (Go.Abs.part agg cs off n):=rfl
@[go_sem] theorem zix {agg:Bool}{off n:Nat}{x:qf}:za p xc h0 al e h (.field agg off n x)=VM agg off n h (zd e x):=by
 simp only[za,zi,VM]
 cases zd e x with
 |none=>rfl
 |some v=>cases v<;>rfl
def zjl (agg:Bool)(len n:Nat)(h:j8)(x i:Option qa):Option qq:=match x,i with
 |some (.agg cs),I j=>(match idx len j with
  |some j=>fY h (Go.Abs.part agg cs (j*n) n)
  |none=>Eh)
 |_,_=>Eh
end
section
variable {p:qr}{xc:XC}{h0:Nat}{al:Option (List Nat)}{e:Env}{h:j8}{α:Type}
def rh (n lg:Nat):Option Int→Option Nat
 |none=>I lg
 |some i=>if 0≤i∧i≤n then I i.toNat else Eh
def NP (s:List α)(lo hi:Option Int):Option (List α):=match rh s.length s.length hi with
 |some j=>(match rh j 0 lo with
  |some i=>I ((s.take j).drop i)
  |none=>Eh)
 |none=>Eh
def xI (o:Option (List α))(lo hi:Option Int):Option (Option (List α)):=match NP (o.getD []) lo hi with
 |some l=>I (o.map fun _=>l)
 |none=>Eh
def ri (lg n:Nat):Option (Option qa)→Option Nat
 |none=>I lg
 |some (I v)=>zo n v
 |some Eh=>Eh
theorem j5h {lg n:Nat}{x:Option qf}:eX e lg n x=ri lg n (x.map (zd e)):=by
 cases x with
 |none=>rfl
 |some x=>simp only[eX,Gn,ri];cases zd e x<;>rfl
theorem jl8 {n d:Nat}{k:IntKind}{i:Int}:zo n (.int k i)=rh n d (I i):=by
 unfold zo rh
 cases i with
 |ofNat m=>
  simp only[]
  by_cases hm:m≤n
  ·rw[if_pos ⟨by simp,by simpa using hm⟩,Nat.ble_eq_true_of_le hm];rfl
  ·rw[if_neg (by simp;omega)]
   cases hb:Gi m n with
   |true=>exact absurd (Nat.le_of_ble_eq_true hb) hm
   |false=>rfl
 |negSucc m=>simp
def VN (k:IntKind):Option Int→Option (Option qa)
 |none=>Eh
 |some i=>I (I (.int k i))
theorem jbr {d n:Nat}{k:IntKind}{x:Option Int}:ri d n (VN k x)=rh n d x:=by
 cases x with
 |none=>rfl
 |some i=>exact jl8
def qQ (sz:Nat)(h:j8)(x:Option qa)(lo hi:Option (Option qa)):Option qq:=match x with
 |some (.list n cK xs)=>bif Gc sz cK||xs.isEmpty then(match ri xs.length xs.length hi with
  |some j=>(match ri 0 j lo with
   |some i=>val h (.list n cK ((xs.take j).drop i))
   |none=>Eh)
  |none=>Eh)else Eh
 |some (.ms b o len)=>(match ri len len hi with
  |some j=>(match ri 0 j lo with
   |some i=>bif Gc i 0||Nat.blt i j then val h (.ms b (o+i*sz) (j-i))else Eh
   |none=>Eh)
  |none=>Eh)
 |some (.au b bu len)=>(match ri len len hi with
  |some j=>(match ri 0 j lo with
   |some i=>bif Gc i 0 then val h (.au b bu j)else Eh
   |none=>Eh)
  |none=>Eh)
 |_=>Eh
attribute [go_sem] Option.map_some Option.map_none
@[go_sem] theorem ziv {sz:Nat}{x:qf}{lo hi:Option qf}:za p xc h0 al e h (.slice sz x lo hi)=qQ sz h (zd e x) (lo.map (zd e)) (hi.map (zd e)):=by
 simp only[za,zi,qQ,j5h]
 cases zd e x with
 |none=>rfl
 |some v=>cases v<;>rfl
theorem j3m {z:Nat}{k k':IntKind}{f:α→qa}{o v:Option (List α)}{lo hi:Option Int}(hv:xI o lo hi=I v):qQ z h (I (sl z f o)) (VN k lo) (VN k' hi)=I ⟨sl z f v,El,Eh,h⟩:=by
 unfold xI NP at hv
 cases o with
 |none=>
  simp only[sl,qQ,Gk,Ga,cT,jbr]
  simp only[Gl]at hv
  cases h1:rh ([]:List α).length ([]:List α).length hi with
  |none=>rw[h1]at hv;cases hv
  |some j=>
   rw[h1]at hv
   simp only[]at hv
   cases h2:rh j 0 lo with
   |none=>rw[h2]at hv;cases hv
   |some i=>
    rw[h2]at hv
    cases hv
    simp only[E5]at h1
    simp only[E5,h1,h2,List.take_nil,List.drop_nil]
    rfl
 |some l=>
  simp only[sl,qQ,Na,decide_true,Gh,cT,jbr,Gb]
  simp only[Gm]at hv
  cases h1:rh l.length l.length hi with
  |none=>rw[h1]at hv;cases hv
  |some j=>
   rw[h1]at hv
   simp only[]at hv
   cases h2:rh j 0 lo with
   |none=>rw[h2]at hv;cases hv
   |some i=>
    rw[h2]at hv
    cases hv
    simp only[h2,val,Gn,List.map_drop,List.map_take]
theorem jks {z:Nat}{k:IntKind}{f:α→qa}{o v:Option (List α)}{hi:Int}(hv:xI o Eh (I hi)=I v):qQ z h (I (sl z f o)) Eh (I (I (.int k hi)))=I ⟨sl z f v,El,Eh,h⟩:=j3m (k:=k) hv
end
section
variable {h:j8}{α:Type}
def D8 (o:Option (List α))(ys:List α):Option (List α):=match o,ys with
 |none,[]=>Eh
 |o,ys=>I (o.getD []++ys)
def bp (o:Option (List α))(ys:List α):Option (Option (List α)):=if(o.getD []).length+ys.length≤1073741824 then I (D8 o ys)else Eh
theorem VO {z b:Nat}{own:Option Nat}{f:α→qa}{o:Option (List α)}{ys:List α}{v:Option (List α)}{y:qa}(hz:0<z)(hb:b≤4096)(hy:kr z y=I (ys.map f))(hv:bp o ys=I v)
  (ho:o=Eh∨own.isSome=Eo):bB z b h own (I (sl z f o)) (I y)=I ⟨sl z f v,Eo,own,h⟩:=by
 unfold bp at hv
 by_cases hl:(o.getD []).length+ys.length≤1073741824
 ·rw[if_pos hl]at hv;cases hv
  cases o with
  |none=>
   simp only[sl,bB,bB.gW,hy,bT,Gh,Gk,Gp,Ga,E5,Gb,mQ,uJ,hz,hb,decide_true]
   simp only[Gl,E5]at hl
   simp only[hl,decide_true,Gx,Ga]
   cases ys with
   |nil=>rfl
   |cons y ys=>simp[pF,D8,sl]
  |some l=>
   have xn:own.isSome=Eo:=by rcases ho with h|h;cases h;exact h
   simp only[sl,bB,bB.gW,hy,bT,xn,Ga,Na,mQ,uJ,hz,hb,decide_true,Gh,Gb]
   simp only[Gm]at hl
   simp only[hl,decide_true,Gx]
   simp[pF,D8,sl]
 ·rw[if_neg hl]at hv;cases hv
theorem jgw {z b t:Nat}{f:α→qa}{o o2 v:Option (List α)}(hv:bp o (o2.getD [])=I v):bB (z+1) b h (I t) (I (sl (z+1) f o)) (I (sl (z+1) f o2))=bT (decide (b≤4096)) (I ⟨sl (z+1) f v,Eo,I t,h⟩):=by
 by_cases hb:b≤4096
 ·rw[VO (by omega) hb Uy hv (.inr rfl)];simp[bT,hb]
 ·have eZ:decide (b≤4096)=El:=by simp[hb]
  rw[eZ]
  cases o with
  |none=>simp[sl,bB,bB.gW,bT,hb,mQ];split<;>rfl
  |some l=>simp[sl,bB,bB.gW,bT,hb,mQ];split<;>rfl
theorem uN {z b t:Nat}{f:α→qa}{x:α}{y:qa}{o v:Option (List α)}(hz:0<z)(hy:kr z y=I [f x])(hv:bp o [x]=I v):bB z b h (I t) (I (sl z f o)) (I y)=bT (decide (b≤4096)) (I ⟨sl z f v,Eo,I t,h⟩):=by
 by_cases hb:b≤4096
 ·rw[VO hz hb hy hv (.inr rfl)];simp[bT,hb]
 ·have eZ:decide (b≤4096)=El:=by simp[hb]
  rw[eZ]
  cases o with
  |none=>simp[sl,bB,bB.gW,bT,hb,hy,mQ]
  |some l=>simp[sl,bB,bB.gW,bT,hb,hy,mQ]
theorem jck {z b t:Nat}{f:α→qa}{o2 v:Option (List α)}(hv:bp (I []) (o2.getD [])=I v):bB (z+1) b h (I t) (I (.list El (z+1) [])) (I (sl (z+1) f o2))=bT (decide (b≤4096)) (I ⟨sl (z+1) f v,Eo,I t,h⟩):=
 jgw (o:=I []) hv
end
def yp (s:List UInt8):qa:=.str s
@[go_sem] theorem j53 {h0:Nat}{al:Option (List Nat)}{h:j8}{b:List UInt8}:fN h0 al El 1 h (I (.ah (yp b)))=I ⟨.str b,El,Eh,h⟩:=rfl
@[go_sem] theorem jw5 {n z:Nat}{l:Option (List (List UInt8))}:below n (sl z yp l)=Eo:=uI fun _=>rfl
theorem q6n {b t:Nat}{h:j8}{bb:Bool}{x:Int}{o v:Option (List Int)}(hv:bp o [x]=I v):bB 1 b h (I t) (I (sl 1 kn o)) (I (.list bb 1 [.int .i64 x]))=bT (decide (b≤4096)) (I ⟨sl 1 kn v,Eo,I t,h⟩):=uN (by omega) rfl hv
theorem q8t {b t:Nat}{h:j8}{bb:Bool}{x:List UInt8}{o v:Option (List (List UInt8))}(hv:bp o [x]=I v):bB 1 b h (I t) (I (sl 1 yp o)) (I (.list bb 1 [.str x]))=bT (decide (b≤4096)) (I ⟨sl 1 yp v,Eo,I t,h⟩):=uN (by omega) rfl hv
theorem qx8 {p:qr}{xc:XC}{k:Nat}{args:List qa}{v v':qa}{o:Bool}{h:j8}(hp:p.cq k=Eh)(hc:zg p xc k args []=I (v,o,h))(hz:aA h v=I v')(hv:below 0 v'=Eo)(hl:v.cu=Eo):jz p xc k args=I (v',o):=by
 rw[k9 hp hc hz hv,hl,Gp]
section
variable {p:qr}{xc:XC}{h0:Nat}{al:Option (List Nat)}{e:Env}{h:j8}{α:Type}
def vf (h0 r sz bytes:Nat)(zero:List qa)(h:j8)(n c:Option qa):Option qq:=match n,c with
 |some (.int .i64 (.ofNat n)),I (.int .i64 (.ofNat c))=>
  bif Gc n c&&Gi n 1073741824&&Gi bytes 4096&&Gc zero.length sz&&Nat.blt 0 sz&&zero.all ze then
   (match aI h0 h r (.cells (cellsOf (List.replicate n zero).flatten))with
    |some h'=>val h' (.ms (h0+r) 0 n)
    |none=>Eh)else Eh
 |_,_=>Eh
@[go_sem] theorem zia {r sz b:Nat}{z:List qa}{n c:qf}:za p xc h0 al e h (.bV (I r) sz b z n c)=vf h0 r sz b z h (zd e n) (zd e c):=by
 simp only[za,zk,vf]
 rfl
def Bd (h0 r sz bytes:Nat)(h:j8)(own:Option Nat)(x y:Option qa):Option qq:=match x,y with
 |some (.list El cK []),I vy=>
  bif own.isSome&&Gc sz cK then
   (match kr sz vy with
    |some ys=>
     bif Gi ys.length 1073741824&&Gi bytes 4096&&Nat.blt 0 sz then
      (match aI h0 h r (.cells (cellsOf (ys.flatMap qa.flat)))with
       |some h'=>I ⟨.ms (h0+r) 0 ys.length,El,own,h'⟩
       |none=>Eh)
     else Eh
    |none=>Eh)
  else Eh
 |_,_=>Eh
@[go_sem] theorem j7k {r sz b:Nat}{x y:qf}:za p xc h0 al e h (.append (I r) sz b x y)=Bd h0 r sz b h (km e x) (zd e x) (zd e y):=by
 simp only[za,zk,Bd]
 rfl
def joc (own:Option Nat)(v:qa)(r:Option j8):Option qq:=match r with
 |some h'=>I ⟨v,El,own,h'⟩
 |none=>Eh
@[go_sem] theorem ju8 {own:Option Nat}{v:qa}:joc own v (I h)=I ⟨v,El,own,h⟩:=rfl
def NU (c:Option (List (qa×Bool)))(off len:Nat):Option qa:=match c with
 |some cs=>bif Dg off len cs then I (.list El (cs.length / len) (lR (cs.length / len) len (cs.map (·.1))))else(match kc cs off len with
  |some vs=>I (.list El 1 vs)
  |none=>Eh)
 |none=>Eh
@[go_sem] theorem Ep {b o n:Nat}:aA h (.ms b o n)=NU (yl h b) o n:=by
 simp only[aA,iG,NU];rfl
@[go_sem] theorem j37 {z:Nat}{f:α→qa}{o:Option (List α)}:UE 0 El h (I (sl z f o))=I ⟨.bool o.isNone,El,Eh,h⟩:=by cases o<;>rfl
theorem uO {z b:Nat}{f:α→qa}{x:α}{y:qa}{o v:Option (List α)}(hz:0<z)(hy:kr z y=I [f x])(hn:o.isNone=Eo)(hv:bp o [x]=I v):bB z b h Eh (I (sl z f o)) (I y)=bT (decide (b≤4096)) (I ⟨sl z f v,Eo,Eh,h⟩):=by
 cases o with
 |some l=>cases hn
 |none=>
  by_cases hb:b≤4096
  ·rw[VO hz hb hy hv (.inl rfl)];simp[bT,hb]
  ·have eZ:decide (b≤4096)=El:=by simp[hb]
   rw[eZ]
   simp[sl,bB,bB.gW,bT,hb,hy,mQ]
theorem q81 {b:Nat}{bb:Bool}{x:Int}{o v:Option (List Int)}(hv:bp o [x]=I v)(hn:o.isNone=Eo):bB 1 b h Eh (I (sl 1 kn o)) (I (.list bb 1 [.int .i64 x]))=bT (decide (b≤4096)) (I ⟨sl 1 kn v,Eo,Eh,h⟩):=uO (by omega) rfl hn hv
attribute [go_sem] Nat.le_refl
end
@[go_sem] theorem zjn {h:j8}{a b c d:Int}:UY [.int,.int] Eo h (I (.agg [.int .i64 a,.int .i64 b])) (I (.agg [.int .i64 c,.int .i64 d]))=I ⟨.bool (!(decide (a=c)&&decide (b=d))),El,Eh,h⟩:=by
 show(match gL [.int,.int] [.int .i64 a,.int .i64 b] [.int .i64 c,.int .i64 d]with|some t=>val h (.bool (bif Eo then !t else t))|none=>Eh)=_
 have:gL [.int,.int] [.int .i64 a,.int .i64 b] [.int .i64 c,.int .i64 d]=I (decide (a=c)&&decide (b=d)):=by
  have e:∀x y:Int,(x == y)=decide (x=y):=fun x y=>by by_cases h:x=y<;>simp[h]
  simp only[gL,mc,e,decide_true,cT]
  by_cases h1:a=c<;>by_cases h2:b=d<;>simp[h1,h2]
 rw[this]
 rfl
section
variable {p:qr}{xc:XC}{h0:Nat}{al:Option (List Nat)}{e:Env}{h:j8}
end
noncomputable def l9 (p:qr)(more:vA)(op:Nat→Bool):qr:={ bH:=p.bH,dj:=p.dj,maps:=p.maps,cq:=fun k=>bif op k then Eh else match more k with
 |some f=>I f
 |none=>bif (p.bH k).isSome||(p.cq k).isSome||(p.dj k).isSome then I fun args=>jz p (X p) k args else Eh }
theorem q0n {p:qr}{xc:XC}{k:Nat}{args:List qa}{r:qa×Bool}(h:jz p xc k args=I r):((p.bH k).isSome||(p.cq k).isSome||(p.dj k).isSome)=Eo:=by
 unfold jz at h
 split at h
 ·rename_i f hf;simp[hf]
 ·split at h
  ·rename_i hc
   unfold zg at hc
   split at hc
   ·rename_i f hf;simp[hf]
   ·split at hc
    ·rename_i f hf;simp[hf]
    ·cases hc
  ·cases h
theorem q64 {p:qr}{more:vA}{op:Nat→Bool}{k:Nat}(ho:op k=El)(hm:more k=Eh){xc:XC}{args:List qa}{v:qa}{o:Bool}(h:jz p (X p) k args=I (v,o))(hv:lQ v=Eo):jz (l9 p more op) xc k args=I (v,o):=by
 have hk:=q0n h
 unfold jz
 have:(l9 p more op).cq k=I fun args=>jz p (X p) k args:=by simp only[l9,ho,cond_false,hm,hk,cT]
 rw[this]
 simp only[h,hv,cT]
theorem q6x {p:qr}{more:vA}{op:Nat→Bool}{k:Nat}{f:List qa→Option (qa×Bool)}(ho:op k=El)(hm:more k=I f){xc:XC}{args:List qa}{v:qa}{o:Bool}(h:f args=I (v,o))(hv:lQ v=Eo):jz (l9 p more op) xc k args=I (v,o):=by
 unfold jz
 have:(l9 p more op).cq k=I f:=by simp only[l9,ho,cond_false,hm]
 rw[this]
 simp only[h,hv,cT]
theorem jek {P:Program}{p:qr}{more:vA}{op:Nat→Bool}(hp:qx P p)(hm:∀k f,more k=I f→Enters P k∧∀args v o,f args=I (v,o)→lQ v=Eo→zw 0 args=Eo→IsoCall P k args v o):qx P (l9 p more op) where
 fn:=hp.fn
 maps:=hp.maps
 gJ:=by
  intro k f hf
  cases ho:op k with
  |true=>
   have:(l9 p more op).cq k=Eh:=by simp only[l9,ho,cT]
   rw[this]at hf;cases hf
  |false=>
  cases xy:more k with
  |some g=>
   have:(l9 p more op).cq k=I g:=by simp only[l9,ho,cond_false,xy]
   rw[this]at hf
   cases hf
   exact hm k _ xy
  |none=>
   cases hk:((p.bH k).isSome||(p.cq k).isSome||(p.dj k).isSome)with
   |false=>
    have:(l9 p more op).cq k=Eh:=by simp only[l9,ho,xy,hk,cond_false]
    rw[this]at hf;cases hf
   |true=>
    have:(l9 p more op).cq k=I fun args=>jz p (X p) k args:=by simp only[l9,ho,cond_false,xy,hk,cT]
    rw[this]at hf
    cases hf
    refine⟨?_,fun args v o h _ hb=>q1x hp h hb⟩
    simp only[Bool.or_eq_true]at hk
    rcases hk with(h|h)|h
    ·obtain⟨af,ha⟩:=Ev.1 h
     exact hp.enters ha
    ·obtain⟨g,hg⟩:=Ev.1 h
     exact(hp.gJ k g hg).1
    ·obtain⟨g,hg⟩:=Ev.1 h
     exact(hp.fC k g hg).1
 mixed:=hp.mixed
 fC:=hp.fC
theorem gj {i:Nat}(h:i<9223372036854775807):j9 .i64 ((i:Int)+1)=((i+1:Nat):Int):=by
 rw[qzn (by omega) (by omega)];rfl
variable {h:j8}
theorem jsk {b pos:Nat}{s:List UInt8}(hp:decide (pos<s.length)=Eo):uL h b (I (.iter s pos))=gV (yj h b (.iter s (pos+(zf s pos).2))) (.az [.bool Eo,.int .i64 pos,.int .i32 (zf s pos).1]):=jc6 (of_decide_eq_true hp)
theorem jql {b pos:Nat}{s:List UInt8}(hp:decide (pos<s.length)=El):uL h b (I (.iter s pos))=I ⟨.az [.bool El],El,Eh,h⟩:=jbu (of_decide_eq_false hp)
end Go.Z
