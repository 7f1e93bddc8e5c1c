/- Functions in Option that mirror the machine's runs. -/
import Derived.Test.YtfopaakmgogpiaaGreatDoorL1
set_option maxRecDepth 100000
open Option renaming some→I,none→E1,isSome_iff_exists→E4,getD_none→Hb,getD_some→Hd,map_some→H7
open Bool renaming false→E2,true→E3,or_true→Gm,true_or→Gq,and_true→If,and_self→Md
open List renaming length_nil→E6,getElem?_eq_some_iff→Gk,getElem?_eq_getElem→Gl,length_map→Gn,isEmpty_nil→Ha
open Nat renaming beq→Gp,ble→G2
namespace Go.Z
open Go Go.Abs
def jx {α β:Type}(x:Option α)(f:α→Option β):Option β:=match x with
 |some a=>f a
 |none=>E1
@[simp] theorem Vy {α β:Type}{a:α}{f:α→Option β}:jx (I a) f=f a:=rfl
@[simp] theorem zev {α β:Type}{f:α→Option β}:jx E1 f=E1:=rfl
theorem jy {α β:Type}{x:Option α}{f:α→Option β}{r:β}(h:jx x f=I r):∃a,x=I a∧f a=I r:=by
 cases x with
 |none=>cases h
 |some a=>exact⟨a,rfl,h⟩
theorem j6 {α:Type}{c:Bool}{a b r:α}(h:cond c a b=r):(c=E3∧a=r)∨(c=E2∧b=r):=by
 cases c
 ·exact .inr ⟨rfl,h⟩
 ·exact .inl ⟨rfl,h⟩
def nO {σ δ:Type}(f:σ→Option (σ⊕δ)):Nat→σ→Option δ
 |0,_=>E1
 |n+1,s=>match f s with
  |none=>E1
  |some (.inl s')=>nO f n s'
  |some (.inr d)=>I d
theorem q4x {σ δ:Type}{f:σ→Option (σ⊕δ)}{d:δ}:∀ {n:Nat} {s:σ},nO f n s=I d→nO f (n+1) s=I d
 |0,_,h=>by cases h
 |n+1,s,h=>by
  rw[nO]at h ⊢
  cases hf:f s with
  |none=>rw[hf]at h;cases h
  |some x=>
   rw[hf]at h
   cases x with
   |inl s'=>exact q4x h
   |inr d'=>exact h
theorem jb9 {σ δ:Type}{f:σ→Option (σ⊕δ)}{d:δ}{n m:Nat}{s:σ}(hm:n≤m)(h:nO f n s=I d):nO f m s=I d:=by
 induction hm with
 |refl=>exact h
 |step _ ih=>exact q4x ih
open Classical in
noncomputable def bf {σ δ:Type}(f:σ→Option (σ⊕δ))(s:σ):Option δ:=
 if h:∃d n,nO f n s=I d then I (Classical.choose h)else E1
theorem NG {σ δ:Type}{f:σ→Option (σ⊕δ)}{s:σ}{d:δ}:bf f s=I d↔∃n,nO f n s=I d:=by
 unfold bf
 constructor
 ·intro h
  split at h
  ·rename_i hh;cases h;exact Classical.choose_spec hh
  ·cases h
 ·rintro ⟨n,hn⟩
  have hh:∃d n,nO f n s=I d:=⟨d,n,hn⟩
  rw[dif_pos hh]
  obtain⟨m,hm⟩:=Classical.choose_spec hh
  have h1:=jb9 (Nat.le_max_left n m) hn
  have h2:=jb9 (Nat.le_max_right n m) hm
  rw[h1]at h2
  exact h2.symm
theorem mL {σ δ:Type}{f:σ→Option (σ⊕δ)}{s s':σ}(h:f s=I (.inl s')):bf f s=bf f s':=by
 apply Option.ext
 intro d
 rw[NG,NG]
 constructor
 ·rintro ⟨n,hn⟩
  cases n with
  |zero=>cases hn
  |succ n=>rw[nO,h]at hn;exact⟨n,hn⟩
 ·rintro ⟨n,hn⟩
  exact⟨n+1,by rw[nO,h];exact hn⟩
theorem iF {σ δ:Type}{f:σ→Option (σ⊕δ)}{s:σ}{d:δ}(h:f s=I (.inr d)):bf f s=I d:=
 NG.2 ⟨1,by rw[nO,h]⟩
theorem q6f {α γ σ δ ε:Type}(l:List α)(f:σ→Option (σ⊕δ))(mk:Nat→γ→σ)(g:Nat→γ→α→γ⊕ε)(En:γ→δ)(Ex:ε→δ)(Inv:Nat→γ→Prop)
  (cM:∀s,Inv l.length s→f (mk l.length s)=I (.inr (En s)))
  (bU:∀i s x,l[i]?=I x→i<l.length→Inv i s→match g i s x with
   | .inl s'=>Inv (i+1) s'∧f (mk i s)=I (.inl (mk (i+1) s'))
   | .inr d=>f (mk i s)=I (.inr (Ex d))):
  ∀(k i:Nat) (s:γ),i+k=l.length→Inv i s→bf f (mk i s)=I (match Dz g i s (l.drop i)with
   | .inl s=>En s
   | .inr d=>Ex d)
 |0,i,s,hi,hv=>by
  have fh:i=l.length:=by omega
  subst fh
  rw[List.drop_eq_nil_of_le (Nat.le_refl _),iF (cM s hv)]
  rfl
 |k+1,i,s,hi,hv=>by
  obtain⟨x,hx⟩:∃x,l[i]?=I x:=⟨_,Gl (by omega)⟩
  have hs:=bU i s x hx (by omega) hv
  rw[oW hx]
  simp only[Dz]
  cases hg:g i s x with
  |inl s'=>
   rw[hg]at hs
   obtain⟨zR,h1⟩:=hs
   rw[mL h1]
   exact q6f l f mk g En Ex Inv cM bU k (i+1) s' (by omega) zR
  |inr d=>
   rw[hg]at hs
   rw[iF hs]
theorem q2n {α γ σ δ ε:Type}(l:List α)(f:σ→Option (σ⊕δ))(mk:Nat→γ→σ)(g:Nat→γ→α→γ⊕ε)(En:γ→δ)(Ex:ε→δ)(Inv:Nat→γ→Prop)(s:γ)
  (cM:∀s,Inv l.length s→f (mk l.length s)=I (.inr (En s)))
  (bU:∀i s x,l[i]?=I x→i<l.length→Inv i s→match g i s x with
   | .inl s'=>Inv (i+1) s'∧f (mk i s)=I (.inl (mk (i+1) s'))
   | .inr d=>f (mk i s)=I (.inr (Ex d))) (hv:Inv 0 s):
  bf f (mk 0 s)=I (match Dz g 0 s l with
   | .inl s=>En s
   | .inr d=>Ex d):=by
 have:=q6f l f mk g En Ex Inv cM bU l.length 0 s (by omega) hv
 rwa [List.drop_zero]at this
theorem VM {α ε:Type}(l:List α)(f:Int→Option (Int⊕(ε⊕Int)))(P:Nat→α→Prop)
  (cM:f (l.length:Int)=I (.inr (.inr (l.length:Int))))
  (bU:∀(i:Nat) (x:α),l[i]?=I x→(f (i:Int)=I (.inl ((i+1:Nat):Int))∧P i x)∨∃e,f (i:Int)=I (.inr (.inl e))):
  (∃e,bf f 0=I (.inl e))∨(bf f 0=I (.inr (l.length:Int))∧∀(i:Nat) (x:α),l[i]?=I x→P i x):=by
 have key:∀(k i:Nat),i+k=l.length→(∀(j:Nat) (x:α),j<i→l[j]?=I x→P j x) →
   (∃e,bf f (i:Int)=I (.inl e))∨(bf f (i:Int)=I (.inr (l.length:Int))∧∀(i:Nat) (x:α),l[i]?=I x→P i x):=by
  intro k
  induction k with
  |zero=>
   intro i hi hp
   have:i=l.length:=by omega
   subst this
   exact .inr ⟨iF cM,fun j x hx=>hp j x (Gk.1 hx).1 hx⟩
  |succ k ih=>
   intro i hi hp
   obtain⟨x,hx⟩:∃x,l[i]?=I x:=⟨_,Gl (by omega)⟩
   rcases bU i x hx with⟨h1,h2⟩|⟨e,h1⟩
   ·rw[mL h1]
    refine ih (i+1) (by omega) fun j y hj hy=>?_
    by_cases wO:j=i
    ·subst wO;rw[hx]at hy;cases hy;exact h2
    ·exact hp j y (by omega) hy
   ·exact .inl ⟨e,iF h1⟩
 exact key l.length 0 (by omega) fun j x hj=>absurd hj (by omega)
theorem jdn {ε:Type}(n:Nat)(f:Int→Option (Int⊕(ε⊕Int)))(cM:f (n:Int)=I (.inr (.inr (n:Int))))(bU:∀i:Nat,i<n→f (i:Int)=I (.inl ((i+1:Nat):Int))):bf f 0=I (.inr (n:Int)):=by
 have hl:(List.range n).length=n:=List.length_range
 rcases VM (List.range n) f (fun _ _=>True) (by rw[hl];exact cM) (fun i x hx=>.inl ⟨bU i (by have:=(Gk.1 hx).1;omega),trivial⟩)with⟨e,he⟩|⟨h,_⟩
 ·exfalso
  have key:∀(k i:Nat),i+k=n→bf f (i:Int)=I (.inr (n:Int)):=by
   intro k
   induction k with
   |zero=>
    intro i hi
    have:i=n:=by omega
    subst this
    exact iF cM
   |succ k ih=>intro i hi;rw[mL (bU i (by omega))];exact ih (i+1) (by omega)
  have:=key n 0 (by omega)
  rw[Int.natCast_zero,he]at this
  cases this
 ·rw[h,hl]
def yo {σ δ:Type}(p:qt)(c:qf)(St:σ→qg)(Ex:δ→qo×qg)(s:σ)(r:σ⊕δ):Prop:=match r with
 | .inl s'=>∃bJ,X p c (St s)=I (.normal,bJ)∧gc (St s).heap.length bJ=St s'
 | .inr d=>X p c (St s)=I (Ex d)
theorem DC {σ δ:Type}{p:qt}{c:qf}{St:σ→qg}{Ex:δ→qo×qg}{s s':σ}{bJ:qg}(hx:X p c (St s)=I (.normal,bJ))(hc:gc (St s).heap.length bJ=St s'):yo p c St Ex s (.inl s'):=⟨bJ,hx,hc⟩
theorem zy {σ δ:Type}{p:qt}{c:qf}{St:σ→qg}{Ex:δ→qo×qg}{s:σ}{d:δ}(hx:X p c (St s)=I (Ex d)):yo p c St Ex s (.inr d):=hx
theorem jkb {σ δ:Type}{p:qt}{c:qf}{St:σ→qg}{Ex:δ→qo×qg}{f:σ→Option (σ⊕δ)}(hb:∀s r,f s=I r→yo p c St Ex s r)(hX:∀d,(Ex d).1≠.normal){d:δ}:
  ∀ {n:Nat} {s:σ},nO f n s=I d→X p (.loop c) (St s)=I (Ex d)
 |0,_,h=>by cases h
 |n+1,s,h=>by
  rw[nO]at h
  rw[jm1]
  cases hf:f s with
  |none=>rw[hf]at h;cases h
  |some x=>
   rw[hf]at h
   have hs:=hb s x hf
   cases x with
   |inl s'=>
    obtain⟨bJ,h1,h2⟩:=hs
    rw[h1,q3x,h2]
    exact jkb hb hX h
   |inr d'=>
    cases h
    rw[show X p c (St s)=I (Ex d)from hs,jde (hX d)]
theorem yz {σ δ:Type}{p:qt}{c:qf}{St:σ→qg}{Ex:δ→qo×qg}{f:σ→Option (σ⊕δ)}(hb:∀s r,f s=I r→yo p c St Ex s r)(hX:∀d,(Ex d).1≠.normal){s:σ}{d:δ}(h:bf f s=I d):X p (.loop c) (St s)=I (Ex d):=by
 obtain⟨n,hn⟩:=NG.1 h
 exact jkb hb hX hn
section
variable {h0:Nat}{al:Option (List Nat)}{h:j8}{α:Type}
def zp (l:List α)(i:Int):Option α:=if 0≤i then l[i.toNat]? else E1
theorem jik {l:List α}{i:Nat}:zp l (i:Int)=l[i]?:=by simp[zp]
theorem ko {z:Nat}{f:α→qa}{l:Option (List α)}{k:IntKind}{i:Int}{x:α}(hx:zp (l.getD []) i=I x):kL z h (I (sl z f l)) (I (.int k i))=I ⟨.ah (f x),E2,E1,h⟩:=by
 unfold zp at hx
 by_cases hi:0≤i
 ·rw[if_pos hi]at hx
  obtain⟨n,rfl⟩:∃n:Nat,i=(n:Int):=⟨i.toNat,by omega⟩
  exact jsu (by simpa using hx)
 ·rw[if_neg hi]at hx;cases hx
theorem jes {s:List UInt8}{k:IntKind}{i:Int}{c:UInt8}(hx:zp s i=I c):Ab h (I (.str s)) (I (.int k i))=I ⟨.int .u8 (c.toNat:Int),E2,E1,h⟩:=by
 unfold zp at hx
 by_cases hi:0≤i
 ·rw[if_pos hi]at hx
  obtain⟨n,rfl⟩:∃n:Nat,i=(n:Int):=⟨i.toNat,by omega⟩
  exact jdb (by simpa using hx)
 ·rw[if_neg hi]at hx;cases hx
end
section
variable {h:j8}
end
section
variable {p:qt}{xc:XC}{h0:Nat}{al:Option (List Nat)}{e:Env}{h:j8}
def j6w (k:IntKind)(h:j8)(x:Option qa):Option qq:=match x with
 |some (.int _ n)=>val h (.int k (j9 k n))
 |_=>E1
@[go_sem] theorem j8m {k k':IntKind}{n:Int}:j6w k h (I (.int k' n))=I ⟨.int k (j9 k n),E2,E1,h⟩:=rfl
def q4g (h:j8)(x:Option qa):Option qq:=match x with
 |some (.str s)=>val h (.str s)
 |some (.int _ n)=>val h (.str (Utf8.encode n).data.toList)
 |_=>E1
@[go_sem] theorem juu {k:IntKind}{n:Int}:q4g h (I (.int k n))=I ⟨.str (Utf8.encode n).data.toList,E2,E1,h⟩:=rfl
@[go_sem] theorem jqj {s:List UInt8}:q4g h (I (.str s))=I ⟨.str s,E2,E1,h⟩:=rfl
def Hp (h:j8)(x:Option qa):Option qq:=match x with
 |some (.ptr b o)=>val h (.ptr b o)
 |some (.ah v)=>val h (.ah v)
 |some (.fn (.func f) a b)=>val h (.fn (.func f) a b)
 |_=>E1
@[go_sem] theorem jrx {b o:Nat}:Hp h (I (.ptr b o))=I ⟨.ptr b o,E2,E1,h⟩:=rfl
@[go_sem] theorem jnm {v:qa}:Hp h (I (.ah v))=I ⟨.ah v,E2,E1,h⟩:=rfl
@[go_sem] theorem jvy {f:Nat}{a b:List qa}:Hp h (I (.fn (.func f) a b))=I ⟨.fn (.func f) a b,E2,E1,h⟩:=rfl
@[go_sem] theorem j0w {x:qh}:za p xc h0 al e h (.nilCheck x)=Hp h (zd e x):=by
 simp only[za,zi,Hp];rfl
def VS (agg:Bool)(off n:Nat)(h:j8)(x:Option qa):Option qq:=match x with
 |some (.agg cs)=>fU h (Go.Abs.part agg cs off n)
 |_=>E1
@[go_sem] theorem j3w {agg:Bool}{off n:Nat}{cs:List qa}:VS agg off n h (I (.agg cs))=fU h (Go.Abs.part agg cs off n):=rfl
@[go_sem] theorem ziq {agg:Bool}{off n:Nat}{x:qh}:za p xc h0 al e h (.field agg off n x)=VS agg off n h (zd e x):=by
 simp only[za,zi,VS]
 cases zd e x with
 |none=>rfl
 |some v=>cases v<;>rfl
def zj3 (agg:Bool)(len n:Nat)(h:j8)(x i:Option qa):Option qq:=match x,i with
 |some (.agg cs),I j=>(match idx len j with
  |some j=>fU h (Go.Abs.part agg cs (j*n) n)
  |none=>E1)
 |_,_=>E1
end
section
variable {p:qt}{xc:XC}{h0:Nat}{al:Option (List Nat)}{e:Env}{h:j8}{α:Type}
def qP (n kU:Nat):Option Int→Option Nat
 |none=>I kU
 |some i=>if 0≤i∧i≤n then I i.toNat else E1
def NE (s:List α)(lo hi:Option Int):Option (List α):=match qP s.length s.length hi with
 |some j=>(match qP j 0 lo with
  |some i=>I ((s.take j).drop i)
  |none=>E1)
 |none=>E1
def xg (o:Option (List α))(lo hi:Option Int):Option (Option (List α)):=match NE (o.getD []) lo hi with
 |some l=>I (o.map fun _=>l)
 |none=>E1
def qR (kU n:Nat):Option (Option qa)→Option Nat
 |none=>I kU
 |some (I v)=>yJ n v
 |some E1=>E1
theorem j4k {kU n:Nat}{x:Option qh}:eR e kU n x=qR kU n (x.map (zd e)):=by
 cases x with
 |none=>rfl
 |some x=>simp only[eR,H7,qR];cases zd e x<;>rfl
theorem jli {n d:Nat}{k:IntKind}{i:Int}:yJ n (.int k i)=qP n d (I i):=by
 unfold yJ qP
 cases i with
 |ofNat m=>
  simp only[]
  by_cases hm:m≤n
  ·rw[if_pos ⟨by simp,by simpa using hm⟩,Nat.ble_eq_true_of_le hm];rfl
  ·rw[if_neg (by simp;omega)]
   cases hb:G2 m n with
   |true=>exact absurd (Nat.le_of_ble_eq_true hb) hm
   |false=>rfl
 |negSucc m=>simp
def VT (k:IntKind):Option Int→Option (Option qa)
 |none=>E1
 |some i=>I (I (.int k i))
theorem jbk {d n:Nat}{k:IntKind}{x:Option Int}:qR d n (VT k x)=qP n d x:=by
 cases x with
 |none=>rfl
 |some i=>exact jli
def qG (sz:Nat)(h:j8)(x:Option qa)(lo hi:Option (Option qa)):Option qq:=match x with
 |some (.list n cJ xs)=>bif Gp sz cJ||xs.isEmpty then(match qR xs.length xs.length hi with
  |some j=>(match qR 0 j lo with
   |some i=>val h (.list n cJ ((xs.take j).drop i))
   |none=>E1)
  |none=>E1)else E1
 |some (.ms b o len)=>(match qR len len hi with
  |some j=>(match qR 0 j lo with
   |some i=>bif Gp i 0||Nat.blt i j then val h (.ms b (o+i*sz) (j-i))else E1
   |none=>E1)
  |none=>E1)
 |some (.ak b bu len)=>(match qR len len hi with
  |some j=>(match qR 0 j lo with
   |some i=>bif Gp i 0 then val h (.ak b bu j)else E1
   |none=>E1)
  |none=>E1)
 |_=>E1
attribute [go_sem] Option.map_some Option.map_none
@[go_sem] theorem ziu {sz:Nat}{x:qh}{lo hi:Option qh}:za p xc h0 al e h (.slice sz x lo hi)=qG sz h (zd e x) (lo.map (zd e)) (hi.map (zd e)):=by
 simp only[za,zi,qG,j4k]
 cases zd e x with
 |none=>rfl
 |some v=>cases v<;>rfl
theorem j5s {z:Nat}{k k':IntKind}{f:α→qa}{o v:Option (List α)}{lo hi:Option Int}(hv:xg o lo hi=I v):qG z h (I (sl z f o)) (VT k lo) (VT k' hi)=I ⟨sl z f v,E2,E1,h⟩:=by
 unfold xg NE at hv
 cases o with
 |none=>
  simp only[sl,qG,Ha,Gm,cT,jbk]
  simp only[Hb]at hv
  cases h1:qP ([]:List α).length ([]:List α).length hi with
  |none=>rw[h1]at hv;cases hv
  |some j=>
   rw[h1]at hv
   simp only[]at hv
   cases h2:qP j 0 lo with
   |none=>rw[h2]at hv;cases hv
   |some i=>
    rw[h2]at hv
    cases hv
    simp only[E6]at h1
    simp only[E6,h1,h2,List.take_nil,List.drop_nil]
    rfl
 |some l=>
  simp only[sl,qG,M3,decide_true,Gq,cT,jbk,Gn]
  simp only[Hd]at hv
  cases h1:qP l.length l.length hi with
  |none=>rw[h1]at hv;cases hv
  |some j=>
   rw[h1]at hv
   simp only[]at hv
   cases h2:qP j 0 lo with
   |none=>rw[h2]at hv;cases hv
   |some i=>
    rw[h2]at hv
    cases hv
    simp only[h2,val,H7,List.map_drop,List.map_take]
theorem jls {z:Nat}{k:IntKind}{f:α→qa}{o v:Option (List α)}{hi:Int}(hv:xg o E1 (I hi)=I v):qG z h (I (sl z f o)) E1 (I (I (.int k hi)))=I ⟨sl z f v,E2,E1,h⟩:=j5s (k:=k) hv
end
section
variable {h:j8}{α:Type}
def DM (o:Option (List α))(ys:List α):Option (List α):=match o,ys with
 |none,[]=>E1
 |o,ys=>I (o.getD []++ys)
def bg (o:Option (List α))(ys:List α):Option (Option (List α)):=if(o.getD []).length+ys.length≤1073741824 then I (DM o ys)else E1
theorem VU {z b:Nat}{own:Option Nat}{f:α→qa}{o:Option (List α)}{ys:List α}{v:Option (List α)}{y:qa}(hz:0<z)(hb:b≤4096)(hy:kl z y=I (ys.map f))(hv:bg o ys=I v)
  (ho:o=E1∨own.isSome=E3):bC z b h own (I (sl z f o)) (I y)=I ⟨sl z f v,E3,own,h⟩:=by
 unfold bg at hv
 by_cases hl:(o.getD []).length+ys.length≤1073741824
 ·rw[if_pos hl]at hv;cases hv
  cases o with
  |none=>
   simp only[sl,bC,bC.gQ,hy,bR,Gq,Ha,If,Gm,E6,Gn,mK,uv,hz,hb,decide_true]
   simp only[Hb,E6]at hl
   simp only[hl,decide_true,Md,Gm]
   cases ys with
   |nil=>rfl
   |cons y ys=>simp[pw,DM,sl]
  |some l=>
   have wP:own.isSome=E3:=by rcases ho with h|h;cases h;exact h
   simp only[sl,bC,bC.gQ,hy,bR,wP,Gm,M3,mK,uv,hz,hb,decide_true,Gq,Gn]
   simp only[Hd]at hl
   simp only[hl,decide_true,Md]
   simp[pw,DM,sl]
 ·rw[if_neg hl]at hv;cases hv
theorem jew {z b t:Nat}{f:α→qa}{o o2 v:Option (List α)}(hv:bg o (o2.getD [])=I v):bC (z+1) b h (I t) (I (sl (z+1) f o)) (I (sl (z+1) f o2))=bR (decide (b≤4096)) (I ⟨sl (z+1) f v,E3,I t,h⟩):=by
 by_cases hb:b≤4096
 ·rw[VU (by omega) hb Uy hv (.inr rfl)];simp[bR,hb]
 ·have eT:decide (b≤4096)=E2:=by simp[hb]
  rw[eT]
  cases o with
  |none=>simp[sl,bC,bC.gQ,bR,hb,mK];split<;>rfl
  |some l=>simp[sl,bC,bC.gQ,bR,hb,mK];split<;>rfl
theorem uz {z b t:Nat}{f:α→qa}{x:α}{y:qa}{o v:Option (List α)}(hz:0<z)(hy:kl z y=I [f x])(hv:bg o [x]=I v):bC z b h (I t) (I (sl z f o)) (I y)=bR (decide (b≤4096)) (I ⟨sl z f v,E3,I t,h⟩):=by
 by_cases hb:b≤4096
 ·rw[VU hz hb hy hv (.inr rfl)];simp[bR,hb]
 ·have eT:decide (b≤4096)=E2:=by simp[hb]
  rw[eT]
  cases o with
  |none=>simp[sl,bC,bC.gQ,bR,hb,hy,mK]
  |some l=>simp[sl,bC,bC.gQ,bR,hb,hy,mK]
theorem jb5 {z b t:Nat}{f:α→qa}{o2 v:Option (List α)}(hv:bg (I []) (o2.getD [])=I v):bC (z+1) b h (I t) (I (.list E2 (z+1) [])) (I (sl (z+1) f o2))=bR (decide (b≤4096)) (I ⟨sl (z+1) f v,E3,I t,h⟩):=
 jew (o:=I []) hv
end
def qag (s:List UInt8):qa:=.str s
@[go_sem] theorem j4c {h0:Nat}{al:Option (List Nat)}{h:j8}{b:List UInt8}:gd h0 al E2 1 h (I (.ah (qag b)))=I ⟨.str b,E2,E1,h⟩:=rfl
@[go_sem] theorem jwe {n z:Nat}{l:Option (List (List UInt8))}:below n (sl z qag l)=E3:=ur fun _=>rfl
theorem q8s {b t:Nat}{h:j8}{bb:Bool}{x:Int}{o v:Option (List Int)}(hv:bg o [x]=I v):bC 1 b h (I t) (I (sl 1 kw o)) (I (.list bb 1 [.int .i64 x]))=bR (decide (b≤4096)) (I ⟨sl 1 kw v,E3,I t,h⟩):=uz (by omega) rfl hv
theorem q7d {b t:Nat}{h:j8}{bb:Bool}{x:List UInt8}{o v:Option (List (List UInt8))}(hv:bg o [x]=I v):bC 1 b h (I t) (I (sl 1 qag o)) (I (.list bb 1 [.str x]))=bR (decide (b≤4096)) (I ⟨sl 1 qag v,E3,I t,h⟩):=uz (by omega) rfl hv
theorem qys {p:qt}{xc:XC}{k:Nat}{args:List qa}{v v':qa}{o:Bool}{h:j8}(hp:p.cm k=E1)(hc:zg p xc k args []=I (v,o,h))(hz:aB h v=I v')(hv:below 0 v'=E3)(hl:v.cu=E3):jz p xc k args=I (v',o):=by
 rw[ky hp hc hz hv,hl,If]
section
variable {p:qt}{xc:XC}{h0:Nat}{al:Option (List Nat)}{e:Env}{h:j8}{α:Type}
def uM (h0 r sz bytes:Nat)(zero:List qa)(h:j8)(n c:Option qa):Option qq:=match n,c with
 |some (.int .i64 (.ofNat n)),I (.int .i64 (.ofNat c))=>
  bif Gp n c&&G2 n 1073741824&&G2 bytes 4096&&Gp zero.length sz&&Nat.blt 0 sz&&zero.all ze then
   (match aJ h0 h r (.cells (cellsOf (List.replicate n zero).flatten))with
    |some h'=>val h' (.ms (h0+r) 0 n)
    |none=>E1)else E1
 |_,_=>E1
@[go_sem] theorem zjc {r sz b:Nat}{z:List qa}{n c:qh}:za p xc h0 al e h (.bV (I r) sz b z n c)=uM h0 r sz b z h (zd e n) (zd e c):=by
 simp only[za,zm,uM]
 rfl
def AV (h0 r sz bytes:Nat)(h:j8)(own:Option Nat)(x y:Option qa):Option qq:=match x,y with
 |some (.list E2 cJ []),I vy=>
  bif own.isSome&&Gp sz cJ then
   (match kl sz vy with
    |some ys=>
     bif G2 ys.length 1073741824&&G2 bytes 4096&&Nat.blt 0 sz then
      (match aJ h0 h r (.cells (cellsOf (ys.flatMap qa.flat)))with
       |some h'=>I ⟨.ms (h0+r) 0 ys.length,E2,own,h'⟩
       |none=>E1)
     else E1
    |none=>E1)
  else E1
 |_,_=>E1
@[go_sem] theorem j7p {r sz b:Nat}{x y:qh}:za p xc h0 al e h (.append (I r) sz b x y)=AV h0 r sz b h (kg e x) (zd e x) (zd e y):=by
 simp only[za,zm,AV]
 rfl
def jrl (own:Option Nat)(v:qa)(r:Option j8):Option qq:=match r with
 |some h'=>I ⟨v,E2,own,h'⟩
 |none=>E1
@[go_sem] theorem jv5 {own:Option Nat}{v:qa}:jrl own v (I h)=I ⟨v,E2,own,h⟩:=rfl
def NH (c:Option (List (qa×Bool)))(off len:Nat):Option qa:=match c with
 |some cs=>bif CU off len cs then I (.list E2 (cs.length / len) (lN (cs.length / len) len (cs.map (·.1))))else(match y9 cs off len with
  |some vs=>I (.list E2 1 vs)
  |none=>E1)
 |none=>E1
@[go_sem] theorem D3 {b o n:Nat}:aB h (.ms b o n)=NH (yl h b) o n:=by
 simp only[aB,fT,NH];rfl
@[go_sem] theorem j5i {z:Nat}{f:α→qa}{o:Option (List α)}:UE 0 E2 h (I (sl z f o))=I ⟨.bool o.isNone,E2,E1,h⟩:=by cases o<;>rfl
theorem uA {z b:Nat}{f:α→qa}{x:α}{y:qa}{o v:Option (List α)}(hz:0<z)(hy:kl z y=I [f x])(hn:o.isNone=E3)(hv:bg o [x]=I v):bC z b h E1 (I (sl z f o)) (I y)=bR (decide (b≤4096)) (I ⟨sl z f v,E3,E1,h⟩):=by
 cases o with
 |some l=>cases hn
 |none=>
  by_cases hb:b≤4096
  ·rw[VU hz hb hy hv (.inl rfl)];simp[bR,hb]
  ·have eT:decide (b≤4096)=E2:=by simp[hb]
   rw[eT]
   simp[sl,bC,bC.gQ,bR,hb,hy,mK]
theorem q7g {b:Nat}{bb:Bool}{x:Int}{o v:Option (List Int)}(hv:bg o [x]=I v)(hn:o.isNone=E3):bC 1 b h E1 (I (sl 1 kw o)) (I (.list bb 1 [.int .i64 x]))=bR (decide (b≤4096)) (I ⟨sl 1 kw v,E3,E1,h⟩):=uA (by omega) rfl hn hv
attribute [go_sem] Nat.le_refl
end
@[go_sem] theorem zkq {h:j8}{a b c d:Int}:Gr [.int,.int] E3 h (I (.agg [.int .i64 a,.int .i64 b])) (I (.agg [.int .i64 c,.int .i64 d]))=I ⟨.bool (!(decide (a=c)&&decide (b=d))),E2,E1,h⟩:=by
 show(match kz [.int,.int] [.int .i64 a,.int .i64 b] [.int .i64 c,.int .i64 d]with|some t=>val h (.bool (bif E3 then !t else t))|none=>E1)=_
 have:kz [.int,.int] [.int .i64 a,.int .i64 b] [.int .i64 c,.int .i64 d]=I (decide (a=c)&&decide (b=d)):=by
  have e:∀x y:Int,(x == y)=decide (x=y):=fun x y=>by by_cases h:x=y<;>simp[h]
  simp only[kz,kN,e,decide_true,cT]
  by_cases h1:a=c<;>by_cases h2:b=d<;>simp[h1,h2]
 rw[this]
 rfl
section
variable {p:qt}{xc:XC}{h0:Nat}{al:Option (List Nat)}{e:Env}{h:j8}
end
noncomputable def l0 (p:qt)(more:uX)(op:Nat→Bool):qt:={ bL:=p.bL,di:=p.di,maps:=p.maps,cm:=fun k=>bif op k then E1 else match more k with
 |some f=>I f
 |none=>bif (p.bL k).isSome||(p.cm k).isSome||(p.di k).isSome then I fun args=>jz p (X p) k args else E1 }
theorem q0y {p:qt}{xc:XC}{k:Nat}{args:List qa}{r:qa×Bool}(h:jz p xc k args=I r):((p.bL k).isSome||(p.cm k).isSome||(p.di k).isSome)=E3:=by
 unfold jz at h
 split at h
 ·rename_i f hf;simp[hf]
 ·split at h
  ·rename_i hc
   unfold zg at hc
   split at hc
   ·rename_i f hf;simp[hf]
   ·split at hc
    ·rename_i f hf;simp[hf]
    ·cases hc
  ·cases h
theorem q7p {p:qt}{more:uX}{op:Nat→Bool}{k:Nat}(ho:op k=E2)(hm:more k=E1){xc:XC}{args:List qa}{v:qa}{o:Bool}(h:jz p (X p) k args=I (v,o))(hv:lM v=E3):jz (l0 p more op) xc k args=I (v,o):=by
 have hk:=q0y h
 unfold jz
 have:(l0 p more op).cm k=I fun args=>jz p (X p) k args:=by simp only[l0,ho,cond_false,hm,hk,cT]
 rw[this]
 simp only[h,hv,cT]
theorem jan {p:qt}{more:uX}{op:Nat→Bool}{k:Nat}{f:List qa→Option (qa×Bool)}(ho:op k=E2)(hm:more k=I f){xc:XC}{args:List qa}{v:qa}{o:Bool}(h:f args=I (v,o))(hv:lM v=E3):jz (l0 p more op) xc k args=I (v,o):=by
 unfold jz
 have:(l0 p more op).cm k=I f:=by simp only[l0,ho,cond_false,hm]
 rw[this]
 simp only[h,hv,cT]
theorem jd5 {P:Program}{p:qt}{more:uX}{op:Nat→Bool}(hp:qx P p)(hm:∀k f,more k=I f→Enters P k∧∀args v o,f args=I (v,o)→lM v=E3→zw 0 args=E3→IsoCall P k args v o):qx P (l0 p more op) where
 fn:=hp.fn
 maps:=hp.maps
 gF:=by
  intro k f hf
  cases ho:op k with
  |true=>
   have:(l0 p more op).cm k=E1:=by simp only[l0,ho,cT]
   rw[this]at hf;cases hf
  |false=>
  cases wW:more k with
  |some g=>
   have:(l0 p more op).cm k=I g:=by simp only[l0,ho,cond_false,wW]
   rw[this]at hf
   cases hf
   exact hm k _ wW
  |none=>
   cases hk:((p.bL k).isSome||(p.cm k).isSome||(p.di k).isSome)with
   |false=>
    have:(l0 p more op).cm k=E1:=by simp only[l0,ho,wW,hk,cond_false]
    rw[this]at hf;cases hf
   |true=>
    have:(l0 p more op).cm k=I fun args=>jz p (X p) k args:=by simp only[l0,ho,cond_false,wW,hk,cT]
    rw[this]at hf
    cases hf
    refine⟨?_,fun args v o h _ hb=>q11 hp h hb⟩
    simp only[Bool.or_eq_true]at hk
    rcases hk with(h|h)|h
    ·obtain⟨af,ha⟩:=E4.1 h
     exact hp.enters ha
    ·obtain⟨g,hg⟩:=E4.1 h
     exact(hp.gF k g hg).1
    ·obtain⟨g,hg⟩:=E4.1 h
     exact(hp.fA k g hg).1
 mixed:=hp.mixed
 fA:=hp.fA
theorem il {i:Nat}(h:i<9223372036854775807):j9 .i64 ((i:Int)+1)=((i+1:Nat):Int):=by
 rw[q0g (by omega) (by omega)];rfl
variable {h:j8}
theorem joe {b pos:Nat}{s:List UInt8}(hp:decide (pos<s.length)=E3):ux h b (I (.iter s pos))=gP (yj h b (.iter s (pos+(zf s pos).2))) (.aC [.bool E3,.int .i64 pos,.int .i32 (zf s pos).1]):=jgh (of_decide_eq_true hp)
theorem jqx {b pos:Nat}{s:List UInt8}(hp:decide (pos<s.length)=E2):ux h b (I (.iter s pos))=I ⟨.aC [.bool E2],E2,E1,h⟩:=jda (of_decide_eq_false hp)
end Go.Z
