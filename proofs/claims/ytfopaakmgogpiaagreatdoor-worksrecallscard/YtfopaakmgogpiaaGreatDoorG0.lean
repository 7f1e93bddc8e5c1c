/- Functions in Option that mirror the machine's runs. -/
import Derived.Test.YtfopaakmgogpiaaGreatDoorL1
set_option linter.unusedVariables false
set_option linter.unusedSimpArgs false
set_option maxRecDepth 100000
open Option renaming some→I,none→Eh,isSome_iff_exists→Ep,getD_none→Gk,getD_some→Gl,map_some→Gm
open Bool renaming false→Ek,true→Eo,or_true→Gb,true_or→Gf,and_true→Gn,and_self→Gr
open List renaming length_nil→Eu,getElem?_eq_some_iff→Ev,getElem?_eq_getElem→Ga,length_map→Gc,isEmpty_nil→Gi
open Nat renaming beq→Ge,ble→Gh
namespace Go.Z
open Go Go.Abs
def jw {α β:Type}(x:Option α)(f:α→Option β):Option β:=match x with
 |some a=>f a
 |none=>Eh
@[simp] theorem Xa {α β:Type}{a:α}{f:α→Option β}:jw (I a) f=f a:=rfl
@[simp] theorem zgw {α β:Type}{f:α→Option β}:jw Eh f=Eh:=rfl
theorem jx {α β:Type}{x:Option α}{f:α→Option β}{r:β}(h:jw x f=I r):∃a,x=I a∧f a=I r:=by
 cases x with
 |none=>cases h
 |some a=>exact⟨a,rfl,h⟩
theorem jz {α:Type}{c:Bool}{a b r:α}(h:cond c a b=r):(c=Eo∧a=r)∨(c=Ek∧b=r):=by
 cases c
 ·exact .inr ⟨rfl,h⟩
 ·exact .inl ⟨rfl,h⟩
def oj {σ δ:Type}(f:σ→Option (σ⊕δ)):Nat→σ→Option δ
 |0,_=>Eh
 |n+1,s=>match f s with
  |none=>Eh
  |some (.inl s')=>oj f n s'
  |some (.inr d)=>I d
theorem q3e {σ δ:Type}{f:σ→Option (σ⊕δ)}{d:δ}:∀ {n:Nat} {s:σ},oj f n s=I d→oj f (n+1) s=I d
 |0,_,h=>by cases h
 |n+1,s,h=>by
  rw[oj]at h ⊢
  cases hf:f s with
  |none=>rw[hf]at h;cases h
  |some x=>
   rw[hf]at h
   cases x with
   |inl s'=>exact q3e h
   |inr d'=>exact h
theorem jek {σ δ:Type}{f:σ→Option (σ⊕δ)}{d:δ}{n m:Nat}{s:σ}(hm:n≤m)(h:oj f n s=I d):oj f m s=I d:=by
 induction hm with
 |refl=>exact h
 |step _ ih=>exact q3e ih
open Classical in
noncomputable def aY {σ δ:Type}(f:σ→Option (σ⊕δ))(s:σ):Option δ:=
 if h:∃d n,oj f n s=I d then I (Classical.choose h)else Eh
theorem Pn {σ δ:Type}{f:σ→Option (σ⊕δ)}{s:σ}{d:δ}:aY f s=I d↔∃n,oj f n s=I d:=by
 unfold aY
 constructor
 ·intro h
  split at h
  ·rename_i hh;cases h;exact Classical.choose_spec hh
  ·cases h
 ·rintro ⟨n,hn⟩
  have hh:∃d n,oj f n s=I d:=⟨d,n,hn⟩
  rw[dif_pos hh]
  obtain⟨m,hm⟩:=Classical.choose_spec hh
  have h1:=jek (Nat.le_max_left n m) hn
  have h2:=jek (Nat.le_max_right n m) hm
  rw[h1]at h2
  exact h2.symm
theorem oF {σ δ:Type}{f:σ→Option (σ⊕δ)}{s s':σ}(h:f s=I (.inl s')):aY f s=aY f s':=by
 apply Option.ext
 intro d
 rw[Pn,Pn]
 constructor
 ·rintro ⟨n,hn⟩
  cases n with
  |zero=>cases hn
  |succ n=>rw[oj,h]at hn;exact⟨n,hn⟩
 ·rintro ⟨n,hn⟩
  exact⟨n+1,by rw[oj,h];exact hn⟩
theorem jD {σ δ:Type}{f:σ→Option (σ⊕δ)}{s:σ}{d:δ}(h:f s=I (.inr d)):aY f s=I d:=
 Pn.2 ⟨1,by rw[oj,h]⟩
theorem q7w {α γ σ δ ε:Type}(l:List α)(f:σ→Option (σ⊕δ))(mk:Nat→γ→σ)(g:Nat→γ→α→γ⊕ε)(En:γ→δ)(Ex:ε→δ)(Inv:Nat→γ→Prop)
  (cM:∀s,Inv l.length s→f (mk l.length s)=I (.inr (En s)))
  (b6:∀i s x,l[i]?=I x→i<l.length→Inv i s→match g i s x with
   | .inl s'=>Inv (i+1) s'∧f (mk i s)=I (.inl (mk (i+1) s'))
   | .inr d=>f (mk i s)=I (.inr (Ex d))):
  ∀(k i:Nat) (s:γ),i+k=l.length→Inv i s→aY f (mk i s)=I (match EO g i s (l.drop i)with
   | .inl s=>En s
   | .inr d=>Ex d)
 |0,i,s,hi,hv=>by
  have fI:i=l.length:=by omega
  subst fI
  rw[List.drop_eq_nil_of_le (Nat.le_refl _),jD (cM s hv)]
  rfl
 |k+1,i,s,hi,hv=>by
  obtain⟨x,hx⟩:∃x,l[i]?=I x:=⟨_,Ga (by omega)⟩
  have hs:=b6 i s x hx (by omega) hv
  rw[pF hx]
  simp only[EO]
  cases hg:g i s x with
  |inl s'=>
   rw[hg]at hs
   obtain⟨AO,h1⟩:=hs
   rw[oF h1]
   exact q7w l f mk g En Ex Inv cM b6 k (i+1) s' (by omega) AO
  |inr d=>
   rw[hg]at hs
   rw[jD hs]
theorem q5z {α γ σ δ ε:Type}(l:List α)(f:σ→Option (σ⊕δ))(mk:Nat→γ→σ)(g:Nat→γ→α→γ⊕ε)(En:γ→δ)(Ex:ε→δ)(Inv:Nat→γ→Prop)(s:γ)
  (cM:∀s,Inv l.length s→f (mk l.length s)=I (.inr (En s)))
  (b6:∀i s x,l[i]?=I x→i<l.length→Inv i s→match g i s x with
   | .inl s'=>Inv (i+1) s'∧f (mk i s)=I (.inl (mk (i+1) s'))
   | .inr d=>f (mk i s)=I (.inr (Ex d))) (hv:Inv 0 s):
  aY f (mk 0 s)=I (match EO g 0 s l with
   | .inl s=>En s
   | .inr d=>Ex d):=by
 have:=q7w l f mk g En Ex Inv cM b6 l.length 0 s (by omega) hv
 rwa [List.drop_zero]at this
theorem Xl {α ε:Type}(l:List α)(f:Int→Option (Int⊕(ε⊕Int)))(P:Nat→α→Prop)
  (cM:f (l.length:Int)=I (.inr (.inr (l.length:Int))))
  (b6:∀(i:Nat) (x:α),l[i]?=I x→(f (i:Int)=I (.inl ((i+1:Nat):Int))∧P i x)∨∃e,f (i:Int)=I (.inr (.inl e))):
  (∃e,aY f 0=I (.inl e))∨(aY f 0=I (.inr (l.length:Int))∧∀(i:Nat) (x:α),l[i]?=I x→P i x):=by
 have key:∀(k i:Nat),i+k=l.length→(∀(j:Nat) (x:α),j<i→l[j]?=I x→P j x) →
   (∃e,aY f (i:Int)=I (.inl e))∨(aY f (i:Int)=I (.inr (l.length:Int))∧∀(i:Nat) (x:α),l[i]?=I x→P i x):=by
  intro k
  induction k with
  |zero=>
   intro i hi hp
   have:i=l.length:=by omega
   subst this
   exact .inr ⟨jD cM,fun j x hx=>hp j x (Ev.1 hx).1 hx⟩
  |succ k ih=>
   intro i hi hp
   obtain⟨x,hx⟩:∃x,l[i]?=I x:=⟨_,Ga (by omega)⟩
   rcases b6 i x hx with⟨h1,h2⟩|⟨e,h1⟩
   ·rw[oF h1]
    refine ih (i+1) (by omega) fun j y hj hy=>?_
    by_cases pw:j=i
    ·subst pw;rw[hx]at hy;cases hy;exact h2
    ·exact hp j y (by omega) hy
   ·exact .inl ⟨e,jD h1⟩
 exact key l.length 0 (by omega) fun j x hj=>absurd hj (by omega)
theorem jjw {ε:Type}(n:Nat)(f:Int→Option (Int⊕(ε⊕Int)))(cM:f (n:Int)=I (.inr (.inr (n:Int))))(b6:∀i:Nat,i<n→f (i:Int)=I (.inl ((i+1:Nat):Int))):aY f 0=I (.inr (n:Int)):=by
 have hl:(List.range n).length=n:=List.length_range
 rcases Xl (List.range n) f (fun _ _=>True) (by rw[hl];exact cM) (fun i x hx=>.inl ⟨b6 i (by have:=(Ev.1 hx).1;omega),trivial⟩)with⟨e,he⟩|⟨h,_⟩
 ·exfalso
  have key:∀(k i:Nat),i+k=n→aY f (i:Int)=I (.inr (n:Int)):=by
   intro k
   induction k with
   |zero=>
    intro i hi
    have:i=n:=by omega
    subst this
    exact jD cM
   |succ k ih=>intro i hi;rw[oF (b6 i (by omega))];exact ih (i+1) (by omega)
  have:=key n 0 (by omega)
  rw[Int.natCast_zero,he]at this
  cases this
 ·rw[h,hl]
def yr {σ δ:Type}(p:qr)(c:qe)(St:σ→qg)(Ex:δ→qi×qg)(s:σ)(r:σ⊕δ):Prop:=match r with
 | .inl s'=>∃bF,X p c (St s)=I (.normal,bF)∧gc (St s).heap.length bF=St s'
 | .inr d=>X p c (St s)=I (Ex d)
theorem kN {σ δ:Type}{p:qr}{c:qe}{St:σ→qg}{Ex:δ→qi×qg}{s s':σ}{bF:qg}(hx:X p c (St s)=I (.normal,bF))(hc:gc (St s).heap.length bF=St s'):yr p c St Ex s (.inl s'):=⟨bF,hx,hc⟩
theorem zu {σ δ:Type}{p:qr}{c:qe}{St:σ→qg}{Ex:δ→qi×qg}{s:σ}{d:δ}(hx:X p c (St s)=I (Ex d)):yr p c St Ex s (.inr d):=hx
theorem jk4 {σ δ:Type}{p:qr}{c:qe}{St:σ→qg}{Ex:δ→qi×qg}{f:σ→Option (σ⊕δ)}(hb:∀s r,f s=I r→yr p c St Ex s r)(hX:∀d,(Ex d).1≠.normal){d:δ}:
  ∀ {n:Nat} {s:σ},oj f n s=I d→X p (.loop c) (St s)=I (Ex d)
 |0,_,h=>by cases h
 |n+1,s,h=>by
  rw[oj]at h
  rw[jn1]
  cases hf:f s with
  |none=>rw[hf]at h;cases h
  |some x=>
   rw[hf]at h
   have hs:=hb s x hf
   cases x with
   |inl s'=>
    obtain⟨bF,h1,h2⟩:=hs
    rw[h1,q49,h2]
    exact jk4 hb hX h
   |inr d'=>
    cases h
    rw[show X p c (St s)=I (Ex d)from hs,jcj (hX d)]
theorem y8 {σ δ:Type}{p:qr}{c:qe}{St:σ→qg}{Ex:δ→qi×qg}{f:σ→Option (σ⊕δ)}(hb:∀s r,f s=I r→yr p c St Ex s r)(hX:∀d,(Ex d).1≠.normal){s:σ}{d:δ}(h:aY f s=I d):X p (.loop c) (St s)=I (Ex d):=by
 obtain⟨n,hn⟩:=Pn.1 h
 exact jk4 hb hX hn
section
variable {h0:Nat}{al:Option (List Nat)}{h:za}{α:Type}
def zn (l:List α)(i:Int):Option α:=if 0≤i then l[i.toNat]? else Eh
theorem jhz {l:List α}{i:Nat}:zn l (i:Int)=l[i]?:=by simp[zn]
theorem yx {z:Nat}{f:α→qa}{l:Option (List α)}{k:IntKind}{i:Int}{x:α}(hx:zn (l.getD []) i=I x):jS z h (I (sl z f l)) (I (.int k i))=I ⟨.ah (f x),Ek,Eh,h⟩:=by
 unfold zn at hx
 by_cases hi:0≤i
 ·rw[if_pos hi]at hx
  obtain⟨n,rfl⟩:∃n:Nat,i=(n:Int):=⟨i.toNat,by omega⟩
  exact jrj (by simpa using hx)
 ·rw[if_neg hi]at hx;cases hx
theorem jjx {s:List UInt8}{k:IntKind}{i:Int}{c:UInt8}(hx:zn s i=I c):A4 h (I (.str s)) (I (.int k i))=I ⟨.int .u8 (c.toNat:Int),Ek,Eh,h⟩:=by
 unfold zn at hx
 by_cases hi:0≤i
 ·rw[if_pos hi]at hx
  obtain⟨n,rfl⟩:∃n:Nat,i=(n:Int):=⟨i.toNat,by omega⟩
  exact jd9 (by simpa using hx)
 ·rw[if_neg hi]at hx;cases hx
end
section
variable {h:za}
end
section
variable {p:qr}{xc:XC}{h0:Nat}{al:Option (List Nat)}{e:Env}{h:za}
def j3l (k:IntKind)(h:za)(x:Option qa):Option qo:=match x with
 |some (.int _ n)=>val h (.int k (j6 k n))
 |_=>Eh
@[go_sem] theorem j9u {k k':IntKind}{n:Int}:j3l k h (I (.int k' n))=I ⟨.int k (j6 k n),Ek,Eh,h⟩:=rfl
def q5s (h:za)(x:Option qa):Option qo:=match x with
 |some (.str s)=>val h (.str s)
 |some (.int _ n)=>val h (.str (Utf8.encode n).data.toList)
 |_=>Eh
@[go_sem] theorem ju4 {k:IntKind}{n:Int}:q5s h (I (.int k n))=I ⟨.str (Utf8.encode n).data.toList,Ek,Eh,h⟩:=rfl
@[go_sem] theorem jqf {s:List UInt8}:q5s h (I (.str s))=I ⟨.str s,Ek,Eh,h⟩:=rfl
def Jb (h:za)(x:Option qa):Option qo:=match x with
 |some (.ptr b o)=>val h (.ptr b o)
 |some (.ah v)=>val h (.ah v)
 |some (.fn (.func f) a b)=>val h (.fn (.func f) a b)
 |_=>Eh
@[go_sem] theorem jrm {b o:Nat}:Jb h (I (.ptr b o))=I ⟨.ptr b o,Ek,Eh,h⟩:=rfl
@[go_sem] theorem jpn {v:qa}:Jb h (I (.ah v))=I ⟨.ah v,Ek,Eh,h⟩:=rfl
@[go_sem] theorem jxk {f:Nat}{a b:List qa}:Jb h (I (.fn (.func f) a b))=I ⟨.fn (.func f) a b,Ek,Eh,h⟩:=rfl
@[go_sem] theorem j6f {x:qp}:j8 p xc h0 al e h (.nilCheck x)=Jb h (zc e x):=by
 simp only[j8,zh,Jb];rfl
def Xq (agg:Bool)(off n:Nat)(h:za)(x:Option qa):Option qo:=match x with
 |some (.agg cs)=>fX h (Go.Abs.part agg cs off n)
 |_=>Eh
@[go_sem] theorem jzm {agg:Bool}{off n:Nat}{cs:List qa}:Xq agg off n h (I (.agg cs))=fX h (Go.Abs.part agg cs off n):=rfl
@[go_sem] theorem zk7 {agg:Bool}{off n:Nat}{x:qp}:j8 p xc h0 al e h (.field agg off n x)=Xq agg off n h (zc e x):=by
 simp only[j8,zh,Xq]
 cases zc e x with
 |none=>rfl
 |some v=>cases v<;>rfl
def zly (agg:Bool)(len n:Nat)(h:za)(x i:Option qa):Option qo:=match x,i with
 |some (.agg cs),I j=>(match idx len j with
  |some j=>fX h (Go.Abs.part agg cs (j*n) n)
  |none=>Eh)
 |_,_=>Eh
end
section
variable {p:qr}{xc:XC}{h0:Nat}{al:Option (List Nat)}{e:Env}{h:za}{α:Type}
def rN (n lv:Nat):Option Int→Option Nat
 |none=>I lv
 |some i=>if 0≤i∧i≤n then I i.toNat else Eh
def Pd (s:List α)(lo hi:Option Int):Option (List α):=match rN s.length s.length hi with
 |some j=>(match rN j 0 lo with
  |some i=>I ((s.take j).drop i)
  |none=>Eh)
 |none=>Eh
def xZ (o:Option (List α))(lo hi:Option Int):Option (Option (List α)):=match Pd (o.getD []) lo hi with
 |some l=>I (o.map fun _=>l)
 |none=>Eh
def rO (lv n:Nat):Option (Option qa)→Option Nat
 |none=>I lv
 |some (I v)=>zX n v
 |some Eh=>Eh
theorem j6u {lv n:Nat}{x:Option qp}:eY e lv n x=rO lv n (x.map (zc e)):=by
 cases x with
 |none=>rfl
 |some x=>simp only[eY,Gm,rO];cases zc e x<;>rfl
theorem jmo {n d:Nat}{k:IntKind}{i:Int}:zX n (.int k i)=rN n d (I i):=by
 unfold zX rN
 cases i with
 |ofNat m=>
  simp only[]
  by_cases hm:m≤n
  ·rw[if_pos ⟨by simp,by simpa using hm⟩,Nat.ble_eq_true_of_le hm];rfl
  ·rw[if_neg (by simp;omega)]
   cases hb:Gh m n with
   |true=>exact absurd (Nat.le_of_ble_eq_true hb) hm
   |false=>rfl
 |negSucc m=>simp
def Xr (k:IntKind):Option Int→Option (Option qa)
 |none=>Eh
 |some i=>I (I (.int k i))
theorem jb7 {d n:Nat}{k:IntKind}{x:Option Int}:rO d n (Xr k x)=rN n d x:=by
 cases x with
 |none=>rfl
 |some i=>exact jmo
def rE (sz:Nat)(h:za)(x:Option qa)(lo hi:Option (Option qa)):Option qo:=match x with
 |some (.list n cJ xs)=>bif Ge sz cJ||xs.isEmpty then(match rO xs.length xs.length hi with
  |some j=>(match rO 0 j lo with
   |some i=>val h (.list n cJ ((xs.take j).drop i))
   |none=>Eh)
  |none=>Eh)else Eh
 |some (.ms b o len)=>(match rO len len hi with
  |some j=>(match rO 0 j lo with
   |some i=>bif Ge i 0||Nat.blt i j then val h (.ms b (o+i*sz) (j-i))else Eh
   |none=>Eh)
  |none=>Eh)
 |some (.au b bz len)=>(match rO len len hi with
  |some j=>(match rO 0 j lo with
   |some i=>bif Ge i 0 then val h (.au b bz j)else Eh
   |none=>Eh)
  |none=>Eh)
 |_=>Eh
attribute [go_sem] Option.map_some Option.map_none
@[go_sem] theorem zk9 {sz:Nat}{x:qp}{lo hi:Option qp}:j8 p xc h0 al e h (.slice sz x lo hi)=rE sz h (zc e x) (lo.map (zc e)) (hi.map (zc e)):=by
 simp only[j8,zh,rE,j6u]
 cases zc e x with
 |none=>rfl
 |some v=>cases v<;>rfl
theorem j2b {z:Nat}{k k':IntKind}{f:α→qa}{o v:Option (List α)}{lo hi:Option Int}(hv:xZ o lo hi=I v):rE z h (I (sl z f o)) (Xr k lo) (Xr k' hi)=I ⟨sl z f v,Ek,Eh,h⟩:=by
 unfold xZ Pd at hv
 cases o with
 |none=>
  simp only[sl,rE,Gi,Gb,cT,jb7]
  simp only[Gk]at hv
  cases h1:rN ([]:List α).length ([]:List α).length hi with
  |none=>rw[h1]at hv;cases hv
  |some j=>
   rw[h1]at hv
   simp only[]at hv
   cases h2:rN j 0 lo with
   |none=>rw[h2]at hv;cases hv
   |some i=>
    rw[h2]at hv
    cases hv
    simp only[Eu]at h1
    simp only[Eu,h1,h2,List.take_nil,List.drop_nil]
    rfl
 |some l=>
  simp only[sl,rE,OD,decide_true,Gf,cT,jb7,Gc]
  simp only[Gl]at hv
  cases h1:rN l.length l.length hi with
  |none=>rw[h1]at hv;cases hv
  |some j=>
   rw[h1]at hv
   simp only[]at hv
   cases h2:rN j 0 lo with
   |none=>rw[h2]at hv;cases hv
   |some i=>
    rw[h2]at hv
    cases hv
    simp only[h2,val,Gm,List.map_drop,List.map_take]
theorem jo9 {z:Nat}{k:IntKind}{f:α→qa}{o v:Option (List α)}{hi:Int}(hv:xZ o Eh (I hi)=I v):rE z h (I (sl z f o)) Eh (I (I (.int k hi)))=I ⟨sl z f v,Ek,Eh,h⟩:=j2b (k:=k) hv
end
section
variable {h:za}{α:Type}
def E1 (o:Option (List α))(ys:List α):Option (List α):=match o,ys with
 |none,[]=>Eh
 |o,ys=>I (o.getD []++ys)
def bj (o:Option (List α))(ys:List α):Option (Option (List α)):=if(o.getD []).length+ys.length≤1073741824 then I (E1 o ys)else Eh
theorem Xt {z b:Nat}{own:Option Nat}{f:α→qa}{o:Option (List α)}{ys:List α}{v:Option (List α)}{y:qa}(hz:0<z)(hb:b≤4096)(hy:ku z y=I (ys.map f))(hv:bj o ys=I v)
  (ho:o=Eh∨own.isSome=Eo):bE z b h own (I (sl z f o)) (I y)=I ⟨sl z f v,Eo,own,h⟩:=by
 unfold bj at hv
 by_cases hl:(o.getD []).length+ys.length≤1073741824
 ·rw[if_pos hl]at hv;cases hv
  cases o with
  |none=>
   simp only[sl,bE,bE.gR,hy,bT,Gf,Gi,Gn,Gb,Eu,Gc,nf,vb,hz,hb,decide_true]
   simp only[Gk,Eu]at hl
   simp only[hl,decide_true,Gr,Gb]
   cases ys with
   |nil=>rfl
   |cons y ys=>simp[pY,E1,sl]
  |some l=>
   have xJ:own.isSome=Eo:=by rcases ho with h|h;cases h;exact h
   simp only[sl,bE,bE.gR,hy,bT,xJ,Gb,OD,nf,vb,hz,hb,decide_true,Gf,Gc]
   simp only[Gl]at hl
   simp only[hl,decide_true,Gr]
   simp[pY,E1,sl]
 ·rw[if_neg hl]at hv;cases hv
theorem jj5 {z b t:Nat}{f:α→qa}{o o2 v:Option (List α)}(hv:bj o (o2.getD [])=I v):bE (z+1) b h (I t) (I (sl (z+1) f o)) (I (sl (z+1) f o2))=bT (decide (b≤4096)) (I ⟨sl (z+1) f v,Eo,I t,h⟩):=by
 by_cases hb:b≤4096
 ·rw[Xt (by omega) hb Wa hv (.inr rfl)];simp[bT,hb]
 ·have eL:decide (b≤4096)=Ek:=by simp[hb]
  rw[eL]
  cases o with
  |none=>simp[sl,bE,bE.gR,bT,hb,nf];split<;>rfl
  |some l=>simp[sl,bE,bE.gR,bT,hb,nf];split<;>rfl
theorem vh {z b t:Nat}{f:α→qa}{x:α}{y:qa}{o v:Option (List α)}(hz:0<z)(hy:ku z y=I [f x])(hv:bj o [x]=I v):bE z b h (I t) (I (sl z f o)) (I y)=bT (decide (b≤4096)) (I ⟨sl z f v,Eo,I t,h⟩):=by
 by_cases hb:b≤4096
 ·rw[Xt hz hb hy hv (.inr rfl)];simp[bT,hb]
 ·have eL:decide (b≤4096)=Ek:=by simp[hb]
  rw[eL]
  cases o with
  |none=>simp[sl,bE,bE.gR,bT,hb,hy,nf]
  |some l=>simp[sl,bE,bE.gR,bT,hb,hy,nf]
theorem jdr {z b t:Nat}{f:α→qa}{o2 v:Option (List α)}(hv:bj (I []) (o2.getD [])=I v):bE (z+1) b h (I t) (I (.list Ek (z+1) [])) (I (sl (z+1) f o2))=bT (decide (b≤4096)) (I ⟨sl (z+1) f v,Eo,I t,h⟩):=
 jj5 (o:=I []) hv
end
def zk (s:List UInt8):qa:=.str s
@[go_sem] theorem j4t {h0:Nat}{al:Option (List Nat)}{h:za}{b:List UInt8}:fO h0 al Ek 1 h (I (.ah (zk b)))=I ⟨.str b,Ek,Eh,h⟩:=rfl
@[go_sem] theorem j44 {n z:Nat}{l:Option (List (List UInt8))}:below n (sl z zk l)=Eo:=u0 fun _=>rfl
theorem ja0 {b t:Nat}{h:za}{bb:Bool}{x:Int}{o v:Option (List Int)}(hv:bj o [x]=I v):bE 1 b h (I t) (I (sl 1 kh o)) (I (.list bb 1 [.int .i64 x]))=bT (decide (b≤4096)) (I ⟨sl 1 kh v,Eo,I t,h⟩):=vh (by omega) rfl hv
theorem H2 {b t:Nat}{h:za}{bb:Bool}{x:List UInt8}{o v:Option (List (List UInt8))}(hv:bj o [x]=I v):bE 1 b h (I t) (I (sl 1 zk o)) (I (.list bb 1 [.str x]))=bT (decide (b≤4096)) (I ⟨sl 1 zk v,Eo,I t,h⟩):=vh (by omega) rfl hv
theorem qzw {p:qr}{xc:XC}{k:Nat}{args:List qa}{v v':qa}{o:Bool}{h:za}(hp:p.cn k=Eh)(hc:ze p xc k args []=I (v,o,h))(hz:az h v=I v')(hv:below 0 v'=Eo)(hl:v.ct=Eo):jy p xc k args=I (v',o):=by
 rw[kr hp hc hz hv,hl,Gn]
section
variable {p:qr}{xc:XC}{h0:Nat}{al:Option (List Nat)}{e:Env}{h:za}{α:Type}
def vA (h0 r sz bytes:Nat)(zero:List qa)(h:za)(n c:Option qa):Option qo:=match n,c with
 |some (.int .i64 (.ofNat n)),I (.int .i64 (.ofNat c))=>
  bif Ge n c&&Gh n 1073741824&&Gh bytes 4096&&Ge zero.length sz&&Nat.blt 0 sz&&zero.all zd then
   (match aF h0 h r (.cells (cellsOf (List.replicate n zero).flatten))with
    |some h'=>val h' (.ms (h0+r) 0 n)
    |none=>Eh)else Eh
 |_,_=>Eh
@[go_sem] theorem zkp {r sz b z n c}:j8 p xc h0 al e h (.bV (I r) sz b z n c)=vA h0 r sz b z h (zc e n) (zc e c):=by
 simp only[j8,zi,vA]
 rfl
def BK (h0 r sz bytes:Nat)(h:za)(own:Option Nat)(x y:Option qa):Option qo:=match x,y with
 |some (.list Ek cJ []),I vy=>
  bif own.isSome&&Ge sz cJ then
   (match ku sz vy with
    |some ys=>
     bif Gh ys.length 1073741824&&Gh bytes 4096&&Nat.blt 0 sz then
      (match aF h0 h r (.cells (cellsOf (ys.flatMap qa.flat)))with
       |some h'=>I ⟨.ms (h0+r) 0 ys.length,Ek,own,h'⟩
       |none=>Eh)
     else Eh
    |none=>Eh)
  else Eh
 |_,_=>Eh
@[go_sem] theorem j9f {r sz b x y}:j8 p xc h0 al e h (.append (I r) sz b x y)=BK h0 r sz b h (kn e x) (zc e x) (zc e y):=by
 simp only[j8,zi,BK]
 rfl
def jvy (own:Option Nat)(v:qa)(r:Option za):Option qo:=match r with
 |some h'=>I ⟨v,Ek,own,h'⟩
 |none=>Eh
@[go_sem] theorem jw1 {own v}:jvy own v (I h)=I ⟨v,Ek,own,h⟩:=rfl
def Po (c:Option (List (qa×Bool)))(off len:Nat):Option qa:=match c with
 |some cs=>bif Eb off len cs then I (.list Ek (cs.length / len) (l6 (cs.length / len) len (cs.map (·.1))))else(match kf cs off len with
  |some vs=>I (.list Ek 1 vs)
  |none=>Eh)
 |none=>Eh
@[go_sem] theorem Fm {b o n}:az h (.ms b o n)=Po (ym h b) o n:=by
 simp only[az,iH,Po];rfl
@[go_sem] theorem j7r {z:Nat}{f:α→qa}{o}:Wh 0 Ek h (I (sl z f o))=I ⟨.bool o.isNone,Ek,Eh,h⟩:=by cases o<;>rfl
theorem rD {z b:Nat}{f:α→qa}{x y o v}(hz:0<z)(hy:ku z y=I [f x])(hn:o.isNone=Eo)(hv:bj o [x]=I v):bE z b h Eh (I (sl z f o)) (I y)=bT (decide (b≤4096)) (I ⟨sl z f v,Eo,Eh,h⟩):=by
 cases o with
 |some l=>cases hn
 |none=>
  by_cases hb:b≤4096
  ·rw[Xt hz hb hy hv (.inl rfl)];simp[bT,hb]
  ·have eL:decide (b≤4096)=Ek:=by simp[hb]
   rw[eL]
   simp[sl,bE,bE.gR,bT,hb,hy,nf]
theorem q94 {b:Nat}{bb:Bool}{x o v}(hv:bj o [x]=I v)(hn:o.isNone=Eo):bE 1 b h Eh (I (sl 1 kh o)) (I (.list bb 1 [.int .i64 x]))=bT (decide (b≤4096)) (I ⟨sl 1 kh v,Eo,Eh,h⟩):=rD (by omega) rfl hn hv
attribute [go_sem] Nat.le_refl
end
@[go_sem] theorem zmf {h a b c d}:Wz [.int,.int] Eo h (I (.agg [.int .i64 a,.int .i64 b])) (I (.agg [.int .i64 c,.int .i64 d]))=I ⟨.bool (!(decide (a=c)&&decide (b=d))),Ek,Eh,h⟩:=by
 show(match gH [.int,.int] [.int .i64 a,.int .i64 b] [.int .i64 c,.int .i64 d]with|some t=>val h (.bool (bif Eo then !t else t))|none=>Eh)=_
 have:gH [.int,.int] [.int .i64 a,.int .i64 b] [.int .i64 c,.int .i64 d]=I (decide (a=c)&&decide (b=d)):=by
  have e:∀x y:Int,(x == y)=decide (x=y):=fun x y=>by by_cases h:x=y<;>simp[h]
  simp only[gH,l4,e,decide_true,cT]
  by_cases h1:a=c<;>by_cases h2:b=d<;>simp[h1,h2]
 rw[this]
 rfl
section
variable {p:qr}{xc:XC}{h0:Nat}{al:Option (List Nat)}{e:Env}{h:za}
end
noncomputable def mJ (p:qr)(more:Ea)(op:Nat→Bool):qr:={ bB:=p.bB,dk:=p.dk,maps:=p.maps,cn:=fun k=>bif op k then Eh else match more k with
 |some f=>I f
 |none=>bif (p.bB k).isSome||(p.cn k).isSome||(p.dk k).isSome then I fun args=>jy p (X p) k args else Eh }
theorem q10 {p xc k args r}(h:jy p xc k args=I r):((p.bB k).isSome||(p.cn k).isSome||(p.dk k).isSome)=Eo:=by
 unfold jy at h
 split at h
 ·rename_i f hf;simp[hf]
 ·split at h
  ·rename_i hc
   unfold ze at hc
   split at hc
   ·rename_i f hf;simp[hf]
   ·split at hc
    ·rename_i f hf;simp[hf]
    ·cases hc
  ·cases h
theorem jak {p more op k}(ho:op k=Ek)(hm:more k=Eh){xc args v o}(h:jy p (X p) k args=I (v,o))(hv:l5 v=Eo):jy (mJ p more op) xc k args=I (v,o):=by
 have hk:=q10 h
 unfold jy
 have:(mJ p more op).cn k=I fun args=>jy p (X p) k args:=by simp only[mJ,ho,cond_false,hm,hk,cT]
 rw[this]
 simp only[h,hv,cT]
theorem q9z {p more op k f}(ho:op k=Ek)(hm:more k=I f){xc args v o}(h:f args=I (v,o))(hv:l5 v=Eo):jy (mJ p more op) xc k args=I (v,o):=by
 unfold jy
 have:(mJ p more op).cn k=I f:=by simp only[mJ,ho,cond_false,hm]
 rw[this]
 simp only[h,hv,cT]
theorem jg1 {P p more op}(hp:qw P p)(hm:∀k f,more k=I f→Enters P k∧∀args v o,f args=I (v,o)→l5 v=Eo→zr 0 args=Eo→IsoCall P k args v o):qw P (mJ p more op) where
 fn:=hp.fn
 maps:=hp.maps
 gF:=by
  intro k f hf
  cases ho:op k with
  |true=>
   have:(mJ p more op).cn k=Eh:=by simp only[mJ,ho,cT]
   rw[this]at hf;cases hf
  |false=>
  cases xR:more k with
  |some g=>
   have:(mJ p more op).cn k=I g:=by simp only[mJ,ho,cond_false,xR]
   rw[this]at hf
   cases hf
   exact hm k _ xR
  |none=>
   cases hk:((p.bB k).isSome||(p.cn k).isSome||(p.dk k).isSome)with
   |false=>
    have:(mJ p more op).cn k=Eh:=by simp only[mJ,ho,xR,hk,cond_false]
    rw[this]at hf;cases hf
   |true=>
    have:(mJ p more op).cn k=I fun args=>jy p (X p) k args:=by simp only[mJ,ho,cond_false,xR,hk,cT]
    rw[this]at hf
    cases hf
    refine⟨?_,fun args v o h _ hb=>q3k hp h hb⟩
    simp only[Bool.or_eq_true]at hk
    rcases hk with(h|h)|h
    ·obtain⟨af,ha⟩:=Ep.1 h
     exact hp.enters ha
    ·obtain⟨g,hg⟩:=Ep.1 h
     exact(hp.gF k g hg).1
    ·obtain⟨g,hg⟩:=Ep.1 h
     exact(hp.fD k g hg).1
 mixed:=hp.mixed
 fD:=hp.fD
theorem kl {i:Nat}(h:i<9223372036854775807):j6 .i64 ((i:Int)+1)=((i+1:Nat):Int):=by
 rw[q1h (by omega) (by omega)];rfl
variable {h:za}
theorem Pp {b bb x o v}(hv:bj o [x]=I v)(hn:o.isNone=Eo):bE 1 b h Eh (I (sl 1 zk o)) (I (.list bb 1 [.str x]))=bT (decide (b≤4096)) (I ⟨sl 1 zk v,Eo,Eh,h⟩):=rD (by omega) rfl hn hv
theorem ju1 {b pos s}(hp:decide (pos<s.length)=Eo):vf h b (I (.iter s pos))=fP (yh h b (.iter s (pos+(zg s pos).2))) (.ay [.bool Eo,.int .i64 pos,.int .i32 (zg s pos).1]):=jf0 (of_decide_eq_true hp)
theorem jr7 {b pos s}(hp:decide (pos<s.length)=Ek):vf h b (I (.iter s pos))=I ⟨.ay [.bool Ek],Ek,Eh,h⟩:=jef (of_decide_eq_false hp)
end Go.Z
