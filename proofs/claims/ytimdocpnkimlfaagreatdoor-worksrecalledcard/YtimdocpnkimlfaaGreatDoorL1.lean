/- What the line's functions compute, and the small functions of the checks. -/
import Derived.Test.YtimdocpnkimlfaaGreatDoorZC
import Derived.Test.YtimdocpnkimlfaaGreatDoorAbsL
set_option linter.unusedVariables false
set_option linter.unusedSimpArgs false
set_option maxRecDepth 100000
open Option renaming some→I,none→E3,isSome_iff_exists→Gg,getD_none→Gv,getD_some→Gw,map_some→Gx
open Bool renaming false→Ga,true→Gc,or_true→Gm,true_or→Gr,and_true→Gz,and_self→G6
open List renaming getElem?_eq_some_iff→Gd,length_nil→Gh,getElem?_eq_getElem→Gl,length_map→Gp,isEmpty_nil→Gs
open Nat renaming beq→Gi,ble→Gq
namespace Go.Z
open Go Go.Abs
theorem pN {α:Type}{l:List α}{i:Nat}{x:α}(hx:l[i]?=I x):l.drop i=x::l.drop (i+1):=by
 obtain⟨h1,h2⟩:=Gd.1 hx
 rw[List.drop_eq_getElem_cons h1,h2]
theorem jfa {i:Nat}{n:Nat}(h:i<n)(hn:n≤9223372036854775807):qe .i64 ((i:Int)+1)=((i+1:Nat):Int):=by
 rw[LP (by omega) (by omega)];rfl
structure IW where
 li:List UInt8
 values:Option (List Int)
def IX (u:IW):AVal:=.agg [.str u.li,sl 1 zw u.values]
@[go_sem] theorem j66 {u:IW}:(IX u).flat=[.str u.li,sl 1 zw u.values]:=rfl
theorem q7n {n:Nat}(u:IW):below n (IX u)=Gc:=by simp only[IX,go_sem]
attribute [go_sem] q7n
def acc {α:Type}(z:Nat)(f:α→AVal)(l:List α):AVal:=match l with
 | []=>.list Gc 0 []
 |a::l=>.list Ga z ((a::l).map f)
def gw {α:Type}(l:List α):Bool:=!l.isEmpty
def jm {α:Type}(l:List α):Option (List α):=match l with
 | []=>E3
 |a::l=>I (a::l)
@[go_sem] theorem zk8 {α:Type}{z:Nat}{f:α→AVal}:acc z f []=.list Gc 0 []:=rfl
@[go_sem] theorem zcg {α:Type}:gw (α:=α) []=Ga:=rfl
theorem Bk {α:Type}(l:List α)(x:α):gw (l++[x])=Gc:=by cases l<;>rfl
@[go_sem] theorem jtv {n:Nat}:mV n []=Gc:=rfl
@[go_sem] theorem jrn {n t:Nat}{v:AVal}{o:Bool}{e:Env}:mV n ((t,v,o)::e)=(below n v&&mV n e):=rfl
@[go_sem] theorem jy5 {h0:Nat}{al:Option (List Nat)}{h:qh}{u:IW}:gi h0 al Gc 2 h (I (.ah (IX u)))=I ⟨.agg [.str u.li,sl 1 zw u.values],Ga,E3,h⟩:=rfl
def pe (i:Nat)(x:Int):Bool:=decide (65≤x∧x≤90)||decide (97≤x∧x≤122)||(decide (i≠0)&&(decide (48≤x∧x≤57)||decide (x=95)))
theorem kinds (x:Int):x≤47∨(48≤x∧x≤57)∨(58≤x∧x≤64)∨(65≤x∧x≤90)∨(91≤x∧x≤94)∨x=95∨x=96∨(97≤x∧x≤122)∨123≤x:=by omega
def vQ (i:Nat):List UInt8→Bool
 | []=>Gc
 |c::s=>pe i c.toNat&&vQ (i+1) s
def dc (s:List UInt8):Bool:=decide (s≠[])&&decide (s.length≤24)&&vQ 0 s
@[go_sem] theorem jno {v:AVal}:zd 0 v []=[]:=rfl
@[go_sem] theorem jkt {h:qh}{u:IW}:D5 Ga 0 1 h (I (.ah (IX u)))=I ⟨.ah (.str u.li),Ga,E3,h⟩:=rfl
@[go_sem] theorem zlp {n:Nat}{v:AVal}{h:qh}:zd n v h=bif Gq h.length n then h else bif below n v&&zr n (h.take n)then h.take n else h:=rfl
@[go_sem] theorem jrt {n:Nat}:zr n []=Gc:=rfl
@[go_sem] theorem jpf {n:Nat}{b:bg}{h:qh}:zr n (b::h)=(nY n b&&zr n h):=rfl
@[go_sem] theorem jpr {n:Nat}{cs:List (AVal×Bool)}:nY n (.cells cs)=pw n cs:=rfl
@[go_sem] theorem jov {n:Nat}:pw n []=Gc:=rfl
@[go_sem] theorem jm9 {n:Nat}{v:AVal}{o:Bool}{cs:List (AVal×Bool)}:pw n ((v,o)::cs)=(below n v&&pw n cs):=rfl
def wZ (h0:Nat)(al:Option (List Nat))(sz:Nat)(h:qh)(x y:Option AVal):Option bh:=match x,y with
  |some (.ms b o len),I vy=>bif zc h0 al b then(match jw h b with
   |some cs=>(match Ae sz len vy with
    |some (n,vs)=>(match jr cs o vs with
     |some ez=>bif Gi vs.length (n*sz)then(match jo h b (.cells ez)with
      |some h'=>val h' (.int .i64 n)
      |none=>E3)else E3
     |none=>E3)
    |none=>E3)
   |none=>E3)else E3
  |_,_=>E3
@[go_sem] theorem zl6 {p:j8}{xc:XC}{h0:Nat}{al:Option (List Nat)}{e:Env}{h:qh}{sz:Nat}{x y:jt}:qf p xc h0 al e h (.copy sz x y)=wZ h0 al sz h (qi e x) (qi e y):=rfl
@[go_sem] theorem zmm {k:IntKind}{x:Int}:xM .neg (.int k x)=I (.int k (qe k (0-x))):=rfl
def Ty (ks:List Kd)(neq:Bool)(h:qh)(x y:Option AVal):Option bh:=match x,y with
  |some (.agg a),I (.agg b)=>bif Gi a.length ks.length&&Gi b.length ks.length then(match yv ks a b with
   |some t=>val h (.bool (bif neq then !t else t))
   |none=>E3)else E3
  |_,_=>E3
@[go_sem] theorem zmf {p:j8}{xc:XC}{h0:Nat}{al:Option (List Nat)}{e:Env}{h:qh}{ks:List Kd}{neq:Bool}{x y:jt}:qf p xc h0 al e h (.eqs ks neq x y)=Ty ks neq h (qi e x) (qi e y):=rfl
def conv (f g:Nat→Nat):Nat→Nat
 |0=>f 0*g 0
 |s+1=>f 0*g (s+1)+conv (fun k=>f (k+1)) g s
def j2b (b:Bool):AVal:=.bool b
@[go_sem] theorem jzl {h0:Nat}{al:Option (List Nat)}{h:qh}{b:Bool}:gi h0 al Ga 1 h (I (.ah (j2b b)))=I ⟨.bool b,Ga,E3,h⟩:=rfl
def qa {α β:Type}(x:Option α)(f:α→Option β):Option β:=match x with
 |some a=>f a
 |none=>E3
@[simp] theorem T8 {α β:Type}{a:α}{f:α→Option β}:qa (I a) f=f a:=rfl
@[simp] theorem zc4 {α β:Type}{f:α→Option β}:qa E3 f=E3:=rfl
theorem qb {α β:Type}{x:Option α}{f:α→Option β}{r:β}(h:qa x f=I r):∃a,x=I a∧f a=I r:=by
 cases x with
 |none=>cases h
 |some a=>exact⟨a,rfl,h⟩
theorem qd {α:Type}{c:Bool}{a b r:α}(h:cond c a b=r):(c=Gc∧a=r)∨(c=Ga∧b=r):=by
 cases c
 ·exact .inr ⟨rfl,h⟩
 ·exact .inl ⟨rfl,h⟩
def oG {σ δ:Type}(f:σ→Option (σ⊕δ)):Nat→σ→Option δ
 |0,_=>E3
 |n+1,s=>match f s with
  |none=>E3
  |some (.inl s')=>oG f n s'
  |some (.inr d)=>I d
theorem q3p {σ δ:Type}{f:σ→Option (σ⊕δ)}{d:δ}:∀ {n:Nat} {s:σ},oG f n s=I d→oG f (n+1) s=I d
 |0,_,h=>by cases h
 |n+1,s,h=>by
  rw[oG]at h ⊢
  cases hf:f s with
  |none=>rw[hf]at h;cases h
  |some x=>
   rw[hf]at h
   cases x with
   |inl s'=>exact q3p h
   |inr d'=>exact h
theorem je2 {σ δ:Type}{f:σ→Option (σ⊕δ)}{d:δ}{n m:Nat}{s:σ}(hm:n≤m)(h:oG f n s=I d):oG f m s=I d:=by
 induction hm with
 |refl=>exact h
 |step _ ih=>exact q3p ih
open Classical in
noncomputable def bz {σ δ:Type}(f:σ→Option (σ⊕δ))(s:σ):Option δ:=
 if h:∃d n,oG f n s=I d then I (Classical.choose h)else E3
theorem MR {σ δ:Type}{f:σ→Option (σ⊕δ)}{s:σ}{d:δ}:bz f s=I d↔∃n,oG f n s=I d:=by
 unfold bz
 constructor
 ·intro h
  split at h
  ·rename_i hh;cases h;exact Classical.choose_spec hh
  ·cases h
 ·rintro ⟨n,hn⟩
  have hh:∃d n,oG f n s=I d:=⟨d,n,hn⟩
  rw[dif_pos hh]
  obtain⟨m,hm⟩:=Classical.choose_spec hh
  have h1:=je2 (Nat.le_max_left n m) hn
  have h2:=je2 (Nat.le_max_right n m) hm
  rw[h1]at h2
  exact h2.symm
theorem nD {σ δ:Type}{f:σ→Option (σ⊕δ)}{s s':σ}(h:f s=I (.inl s')):bz f s=bz f s':=by
 apply Option.ext
 intro d
 rw[MR,MR]
 constructor
 ·rintro ⟨n,hn⟩
  cases n with
  |zero=>cases hn
  |succ n=>rw[oG,h]at hn;exact⟨n,hn⟩
 ·rintro ⟨n,hn⟩
  exact⟨n+1,by rw[oG,h];exact hn⟩
theorem y7 {σ δ:Type}{f:σ→Option (σ⊕δ)}{s:σ}{d:δ}(h:f s=I (.inr d)):bz f s=I d:=
 MR.2 ⟨1,by rw[oG,h]⟩
theorem q7v {α γ σ δ ε:Type}(l:List α)(f:σ→Option (σ⊕δ))(mk:Nat→γ→σ)(g:Nat→γ→α→γ⊕ε)(En:γ→δ)(Ex:ε→δ)(Inv:Nat→γ→Prop)
  (cR:∀s,Inv l.length s→f (mk l.length s)=I (.inr (En s)))
  (cw:∀i s x,l[i]?=I x→i<l.length→Inv i s→match g i s x with
   | .inl s'=>Inv (i+1) s'∧f (mk i s)=I (.inl (mk (i+1) s'))
   | .inr d=>f (mk i s)=I (.inr (Ex d))):
  ∀(k i:Nat) (s:γ),i+k=l.length→Inv i s→bz f (mk i s)=I (match D6 g i s (l.drop i)with
   | .inl s=>En s
   | .inr d=>Ex d)
 |0,i,s,hi,hv=>by
  have fL:i=l.length:=by omega
  subst fL
  rw[List.drop_eq_nil_of_le (Nat.le_refl _),y7 (cR s hv)]
  rfl
 |k+1,i,s,hi,hv=>by
  obtain⟨x,hx⟩:∃x,l[i]?=I x:=⟨_,Gl (by omega)⟩
  have hs:=cw i s x hx (by omega) hv
  rw[pN hx]
  simp only[D6]
  cases hg:g i s x with
  |inl s'=>
   rw[hg]at hs
   obtain⟨vu,h1⟩:=hs
   rw[nD h1]
   exact q7v l f mk g En Ex Inv cR cw k (i+1) s' (by omega) vu
  |inr d=>
   rw[hg]at hs
   rw[y7 hs]
theorem q3h {α γ σ δ ε:Type}(l:List α)(f:σ→Option (σ⊕δ))(mk:Nat→γ→σ)(g:Nat→γ→α→γ⊕ε)(En:γ→δ)(Ex:ε→δ)(Inv:Nat→γ→Prop)(s:γ)
  (cR:∀s,Inv l.length s→f (mk l.length s)=I (.inr (En s)))
  (cw:∀i s x,l[i]?=I x→i<l.length→Inv i s→match g i s x with
   | .inl s'=>Inv (i+1) s'∧f (mk i s)=I (.inl (mk (i+1) s'))
   | .inr d=>f (mk i s)=I (.inr (Ex d))) (hv:Inv 0 s):
  bz f (mk 0 s)=I (match D6 g 0 s l with
   | .inl s=>En s
   | .inr d=>Ex d):=by
 have:=q7v l f mk g En Ex Inv cR cw l.length 0 s (by omega) hv
 rwa [List.drop_zero]at this
theorem Ui {α ε:Type}(l:List α)(f:Int→Option (Int⊕(ε⊕Int)))(P:Nat→α→Prop)
  (cR:f (l.length:Int)=I (.inr (.inr (l.length:Int))))
  (cw:∀(i:Nat) (x:α),l[i]?=I x→(f (i:Int)=I (.inl ((i+1:Nat):Int))∧P i x)∨∃e,f (i:Int)=I (.inr (.inl e))):
  (∃e,bz f 0=I (.inl e))∨(bz f 0=I (.inr (l.length:Int))∧∀(i:Nat) (x:α),l[i]?=I x→P i x):=by
 have key:∀(k i:Nat),i+k=l.length→(∀(j:Nat) (x:α),j<i→l[j]?=I x→P j x) →
   (∃e,bz f (i:Int)=I (.inl e))∨(bz f (i:Int)=I (.inr (l.length:Int))∧∀(i:Nat) (x:α),l[i]?=I x→P i x):=by
  intro k
  induction k with
  |zero=>
   intro i hi hp
   have:i=l.length:=by omega
   subst this
   exact .inr ⟨y7 cR,fun j x hx=>hp j x (Gd.1 hx).1 hx⟩
  |succ k ih=>
   intro i hi hp
   obtain⟨x,hx⟩:∃x,l[i]?=I x:=⟨_,Gl (by omega)⟩
   rcases cw i x hx with⟨h1,h2⟩|⟨e,h1⟩
   ·rw[nD h1]
    refine ih (i+1) (by omega) fun j y hj hy=>?_
    by_cases pC:j=i
    ·subst pC;rw[hx]at hy;cases hy;exact h2
    ·exact hp j y (by omega) hy
   ·exact .inl ⟨e,y7 h1⟩
 exact key l.length 0 (by omega) fun j x hj=>absurd hj (by omega)
theorem jk1 {ε:Type}(n:Nat)(f:Int→Option (Int⊕(ε⊕Int)))(cR:f (n:Int)=I (.inr (.inr (n:Int))))(cw:∀i:Nat,i<n→f (i:Int)=I (.inl ((i+1:Nat):Int))):bz f 0=I (.inr (n:Int)):=by
 have hl:(List.range n).length=n:=List.length_range
 rcases Ui (List.range n) f (fun _ _=>True) (by rw[hl];exact cR) (fun i x hx=>.inl ⟨cw i (by have:=(Gd.1 hx).1;omega),trivial⟩)with⟨e,he⟩|⟨h,_⟩
 ·exfalso
  have key:∀(k i:Nat),i+k=n→bz f (i:Int)=I (.inr (n:Int)):=by
   intro k
   induction k with
   |zero=>
    intro i hi
    have:i=n:=by omega
    subst this
    exact y7 cR
   |succ k ih=>intro i hi;rw[nD (cw i (by omega))];exact ih (i+1) (by omega)
  have:=key n 0 (by omega)
  rw[Int.natCast_zero,he]at this
  cases this
 ·rw[h,hl]
def jz {σ δ:Type}(p:j8)(c:aw)(St:σ→bf)(Ex:δ→jg×bf)(s:σ)(r:σ⊕δ):Prop:=match r with
 | .inl s'=>∃bT,X p c (St s)=I (.normal,bT)∧gc (St s).heap.length bT=St s'
 | .inr d=>X p c (St s)=I (Ex d)
theorem Be {σ δ:Type}{p:j8}{c:aw}{St:σ→bf}{Ex:δ→jg×bf}{s s':σ}{bT:bf}(hx:X p c (St s)=I (.normal,bT))(hc:gc (St s).heap.length bT=St s'):jz p c St Ex s (.inl s'):=⟨bT,hx,hc⟩
theorem qz {σ δ:Type}{p:j8}{c:aw}{St:σ→bf}{Ex:δ→jg×bf}{s:σ}{d:δ}(hx:X p c (St s)=I (Ex d)):jz p c St Ex s (.inr d):=hx
theorem jm5 {σ δ:Type}{p:j8}{c:aw}{St:σ→bf}{Ex:δ→jg×bf}{f:σ→Option (σ⊕δ)}(hb:∀s r,f s=I r→jz p c St Ex s r)(hX:∀d,(Ex d).1≠.normal){d:δ}:
  ∀ {n:Nat} {s:σ},oG f n s=I d→X p (.loop c) (St s)=I (Ex d)
 |0,_,h=>by cases h
 |n+1,s,h=>by
  rw[oG]at h
  rw[jot]
  cases hf:f s with
  |none=>rw[hf]at h;cases h
  |some x=>
   rw[hf]at h
   have hs:=hb s x hf
   cases x with
   |inl s'=>
    obtain⟨bT,h1,h2⟩:=hs
    rw[h1,q3l,h2]
    exact jm5 hb hX h
   |inr d'=>
    cases h
    rw[show X p c (St s)=I (Ex d)from hs,jfs (hX d)]
theorem jnr {σ δ:Type}{p:j8}{c:aw}{St:σ→bf}{Ex:δ→jg×bf}{f:σ→Option (σ⊕δ)}(hb:∀s r,f s=I r→jz p c St Ex s r)(hX:∀d,(Ex d).1≠.normal){s:σ}{d:δ}(h:bz f s=I d):X p (.loop c) (St s)=I (Ex d):=by
 obtain⟨n,hn⟩:=MR.1 h
 exact jm5 hb hX hn
theorem zn {σ δ:Type}{p:j8}{c:aw}{St:σ→bf}{Ex:δ→jg×bf}{f:σ→Option (σ⊕δ)}(hb:∀s r,f s=some r→jz p c St Ex s r){s:σ}{d:δ}(h:bz f s=some d)(hX:∀d,(Ex d).1≠.normal:=by first|exact fun d hh=>by cases hh|(intro d;rcases d with d|d|d<;>(intro hh;cases hh))|(intro d;rcases d with d|d<;>(intro hh;cases hh))):X p (.loop c) (St s)=some (Ex d):=jnr hb hX h
section
variable {h0:Nat}{al:Option (List Nat)}{h:qh}{α:Type}
def qq (l:List α)(i:Int):Option α:=if 0≤i then l[i.toNat]? else E3
theorem jhv {l:List α}{i:Nat}:qq l (i:Int)=l[i]?:=by simp[qq]
theorem z7 {z:Nat}{f:α→AVal}{l:Option (List α)}{k:IntKind}{i:Int}{x:α}(hx:qq (l.getD []) i=I x):jY z h (I (sl z f l)) (I (.int k i))=I ⟨.ah (f x),Ga,E3,h⟩:=by
 unfold qq at hx
 by_cases hi:0≤i
 ·rw[if_pos hi]at hx
  obtain⟨n,rfl⟩:∃n:Nat,i=(n:Int):=⟨i.toNat,by omega⟩
  exact jvn (by simpa using hx)
 ·rw[if_neg hi]at hx;cases hx
theorem jgp {s:List UInt8}{k:IntKind}{i:Int}{c:UInt8}(hx:qq s i=I c):Bb h (I (.str s)) (I (.int k i))=I ⟨.int .u8 (c.toNat:Int),Ga,E3,h⟩:=by
 unfold qq at hx
 by_cases hi:0≤i
 ·rw[if_pos hi]at hx
  obtain⟨n,rfl⟩:∃n:Nat,i=(n:Int):=⟨i.toNat,by omega⟩
  exact jfq (by simpa using hx)
 ·rw[if_neg hi]at hx;cases hx
end
section
variable {h:qh}
@[go_sem] theorem jrh {agg:Bool}{len sz n:Nat}{k:IntKind}{cs:List AVal}:L3 agg len sz h (I (.ah (.agg cs))) (I (.int k (no_index (OfNat.ofNat n:Int))))=b3 (decide ((OfNat.ofNat n:Nat)<len)) (pM agg h (Go.Abs.part agg cs ((OfNat.ofNat n:Nat)*sz) sz)):=by
 have e:(OfNat.ofNat n:Int)=(n:Int):=rfl
 have e':(OfNat.ofNat n:Nat)=n:=rfl
 rw[e,e']
 by_cases hn:n<len
 ·simp[L3,vB,LO hn,hn,b3,pM];rfl
 ·have hi:pL len (n:Int)=E3:=by unfold pL;rw[if_neg (by omega)]
  simp[L3,vB,hi,hn,b3]
end
def wN (x y:Int):Option Int:=if y=0 then E3 else I (x.tmod y)
theorem jpi {k:IntKind}{x y v:Int}(h:wN x y=I v):yg .rem (.int k x) (.int k y)=I (.int k v):=by
 unfold wN at h
 by_cases hy:y=0
 ·rw[if_pos hy]at h;cases h
 ·rw[if_neg hy]at h;cases h
  have:(y == 0)=Ga:=by simp[hy]
  simp[yg,nW,this]
section
variable {p:j8}{xc:XC}{h0:Nat}{al:Option (List Nat)}{e:Env}{h:qh}
def Up (k:IntKind)(h:qh)(x:Option AVal):Option bh:=match x with
 |some (.int _ n)=>val h (.int k (qe k n))
 |_=>E3
@[go_sem] theorem zav {k k':IntKind}{n:Int}:Up k h (I (.int k' n))=I ⟨.int k (qe k n),Ga,E3,h⟩:=rfl
@[go_sem] theorem zl4 {k:IntKind}{x:jt}:qf p xc h0 al e h (.conv k x)=Up k h (qi e x):=by
 simp only[qf,qo,Up]
 cases qi e x with
 |none=>rfl
 |some v=>cases v<;>rfl
def q3v (h:qh)(x:Option AVal):Option bh:=match x with
 |some (.str s)=>val h (.str s)
 |some (.int _ n)=>val h (.str (Utf8.encode n).data.toList)
 |_=>E3
@[go_sem] theorem jvg {k:IntKind}{n:Int}:q3v h (I (.int k n))=I ⟨.str (Utf8.encode n).data.toList,Ga,E3,h⟩:=rfl
@[go_sem] theorem jyo {s:List UInt8}:q3v h (I (.str s))=I ⟨.str s,Ga,E3,h⟩:=rfl
def IY (h:qh)(x:Option AVal):Option bh:=match x with
 |some (.ptr b o)=>val h (.ptr b o)
 |some (.ah v)=>val h (.ah v)
 |some (.fn (.func f) a b)=>val h (.fn (.func f) a b)
 |_=>E3
@[go_sem] theorem jww {b o:Nat}:IY h (I (.ptr b o))=I ⟨.ptr b o,Ga,E3,h⟩:=rfl
@[go_sem] theorem jrd {v:AVal}:IY h (I (.ah v))=I ⟨.ah v,Ga,E3,h⟩:=rfl
@[go_sem] theorem jy7 {f:Nat}{a b:List AVal}:IY h (I (.fn (.func f) a b))=I ⟨.fn (.func f) a b,Ga,E3,h⟩:=rfl
@[go_sem] theorem j5t {x:jt}:qf p xc h0 al e h (.nilCheck x)=IY h (qi e x):=by
 simp only[qf,qo,IY];rfl
def Uq (agg:Bool)(off n:Nat)(h:qh)(x:Option AVal):Option bh:=match x with
 |some (.agg cs)=>gD h (Go.Abs.part agg cs off n)
 |_=>E3
@[go_sem] theorem j3d {agg:Bool}{off n:Nat}{cs:List AVal}:Uq agg off n h (I (.agg cs))=gD h (Go.Abs.part agg cs off n):=rfl
@[go_sem] theorem zk3 {agg:Bool}{off n:Nat}{x:jt}:qf p xc h0 al e h (.field agg off n x)=Uq agg off n h (qi e x):=by
 simp only[qf,qo,Uq]
 cases qi e x with
 |none=>rfl
 |some v=>cases v<;>rfl
def zl3 (agg:Bool)(len n:Nat)(h:qh)(x i:Option AVal):Option bh:=match x,i with
 |some (.agg cs),I j=>(match idx len j with
  |some j=>gD h (Go.Abs.part agg cs (j*n) n)
  |none=>E3)
 |_,_=>E3
end
section
variable {p:j8}{xc:XC}{h0:Nat}{al:Option (List Nat)}{e:Env}{h:qh}{α:Type}
def sw (n lG:Nat):Option Int→Option Nat
 |none=>I lG
 |some i=>if 0≤i∧i≤n then I i.toNat else E3
def ME (s:List α)(lo hi:Option Int):Option (List α):=match sw s.length s.length hi with
 |some j=>(match sw j 0 lo with
  |some i=>I ((s.take j).drop i)
  |none=>E3)
 |none=>E3
def yO (o:Option (List α))(lo hi:Option Int):Option (Option (List α)):=match ME (o.getD []) lo hi with
 |some l=>I (o.map fun _=>l)
 |none=>E3
def sx (lG n:Nat):Option (Option AVal)→Option Nat
 |none=>I lG
 |some (I v)=>Ad n v
 |some E3=>E3
theorem j0j {lG n:Nat}{x:Option jt}:fD e lG n x=sx lG n (x.map (qi e)):=by
 cases x with
 |none=>rfl
 |some x=>simp only[fD,Gx,sx];cases qi e x<;>rfl
theorem jqs {n d:Nat}{k:IntKind}{i:Int}:Ad n (.int k i)=sw n d (I i):=by
 unfold Ad sw
 cases i with
 |ofNat m=>
  simp only[]
  by_cases hm:m≤n
  ·rw[if_pos ⟨by simp,by simpa using hm⟩,Nat.ble_eq_true_of_le hm];rfl
  ·rw[if_neg (by simp;omega)]
   cases hb:Gq m n with
   |true=>exact absurd (Nat.le_of_ble_eq_true hb) hm
   |false=>rfl
 |negSucc m=>simp
def Ur (k:IntKind):Option Int→Option (Option AVal)
 |none=>E3
 |some i=>I (I (.int k i))
theorem je8 {d n:Nat}{k:IntKind}{x:Option Int}:sx d n (Ur k x)=sw n d x:=by
 cases x with
 |none=>rfl
 |some i=>exact jqs
def rR (sz:Nat)(h:qh)(x:Option AVal)(lo hi:Option (Option AVal)):Option bh:=match x with
 |some (.list n c8 xs)=>bif Gi sz c8||xs.isEmpty then(match sx xs.length xs.length hi with
  |some j=>(match sx 0 j lo with
   |some i=>val h (.list n c8 ((xs.take j).drop i))
   |none=>E3)
  |none=>E3)else E3
 |some (.ms b o len)=>(match sx len len hi with
  |some j=>(match sx 0 j lo with
   |some i=>bif Gi i 0||Nat.blt i j then val h (.ms b (o+i*sz) (j-i))else E3
   |none=>E3)
  |none=>E3)
 |some (.ay b bJ len)=>(match sx len len hi with
  |some j=>(match sx 0 j lo with
   |some i=>bif Gi i 0 then val h (.ay b bJ j)else E3
   |none=>E3)
  |none=>E3)
 |_=>E3
attribute [go_sem] Option.map_some Option.map_none
@[go_sem] theorem zld {sz:Nat}{x:jt}{lo hi:Option jt}:qf p xc h0 al e h (.slice sz x lo hi)=rR sz h (qi e x) (lo.map (qi e)) (hi.map (qi e)):=by
 simp only[qf,qo,rR,j0j]
 cases qi e x with
 |none=>rfl
 |some v=>cases v<;>rfl
theorem j36 {z:Nat}{k k':IntKind}{f:α→AVal}{o v:Option (List α)}{lo hi:Option Int}(hv:yO o lo hi=I v):rR z h (I (sl z f o)) (Ur k lo) (Ur k' hi)=I ⟨sl z f v,Ga,E3,h⟩:=by
 unfold yO ME at hv
 cases o with
 |none=>
  simp only[sl,rR,Gs,Gm,cond_true,je8]
  simp only[Gv]at hv
  cases h1:sw ([]:List α).length ([]:List α).length hi with
  |none=>rw[h1]at hv;cases hv
  |some j=>
   rw[h1]at hv
   simp only[]at hv
   cases h2:sw j 0 lo with
   |none=>rw[h2]at hv;cases hv
   |some i=>
    rw[h2]at hv
    cases hv
    simp only[Gh]at h1
    simp only[Gh,h1,h2,List.take_nil,List.drop_nil]
    rfl
 |some l=>
  simp only[sl,rR,LR,decide_true,Gr,cond_true,je8,Gp]
  simp only[Gw]at hv
  cases h1:sw l.length l.length hi with
  |none=>rw[h1]at hv;cases hv
  |some j=>
   rw[h1]at hv
   simp only[]at hv
   cases h2:sw j 0 lo with
   |none=>rw[h2]at hv;cases hv
   |some i=>
    rw[h2]at hv
    cases hv
    simp only[h2,val,Gx,List.map_drop,List.map_take]
theorem jo5 {z:Nat}{k:IntKind}{f:α→AVal}{o v:Option (List α)}{hi:Int}(hv:yO o E3 (I hi)=I v):rR z h (I (sl z f o)) E3 (I (I (.int k hi)))=I ⟨sl z f v,Ga,E3,h⟩:=j36 (k:=k) hv
end
section
variable {h:qh}{α:Type}
def El (o:Option (List α))(ys:List α):Option (List α):=match o,ys with
 |none,[]=>E3
 |o,ys=>I (o.getD []++ys)
def bH (o:Option (List α))(ys:List α):Option (Option (List α)):=if(o.getD []).length+ys.length≤1073741824 then I (El o ys)else E3
theorem Us {z b:Nat}{own:Option Nat}{f:α→AVal}{o:Option (List α)}{ys:List α}{v:Option (List α)}{y:AVal}(hz:0<z)(hb:b≤4096)(hy:zy z y=I (ys.map f))(hv:bH o ys=I v)
  (ho:o=E3∨own.isSome=Gc):bO z b h own (I (sl z f o)) (I y)=I ⟨sl z f v,Gc,own,h⟩:=by
 unfold bH at hv
 by_cases hl:(o.getD []).length+ys.length≤1073741824
 ·rw[if_pos hl]at hv;cases hv
  cases o with
  |none=>
   simp only[sl,bO,bO.iu,hy,b3,Gr,Gs,Gz,Gm,Gh,Gp,nB,vD,hz,hb,decide_true]
   simp only[Gv,Gh]at hl
   simp only[hl,decide_true,G6,Gm]
   cases ys with
   |nil=>rfl
   |cons y ys=>simp[qJ,El,sl]
  |some l=>
   have yB:own.isSome=Gc:=by rcases ho with h|h;cases h;exact h
   simp only[sl,bO,bO.iu,hy,b3,yB,Gm,LR,nB,vD,hz,hb,decide_true,Gr,Gp]
   simp only[Gw]at hl
   simp only[hl,decide_true,G6]
   simp[qJ,El,sl]
 ·rw[if_neg hl]at hv;cases hv
theorem jlu {z b t:Nat}{f:α→AVal}{o o2 v:Option (List α)}(hv:bH o (o2.getD [])=I v):bO (z+1) b h (I t) (I (sl (z+1) f o)) (I (sl (z+1) f o2))=b3 (decide (b≤4096)) (I ⟨sl (z+1) f v,Gc,I t,h⟩):=by
 by_cases hb:b≤4096
 ·rw[Us (by omega) hb S9 hv (.inr rfl)];simp[b3,hb]
 ·have fi:decide (b≤4096)=Ga:=by simp[hb]
  rw[fi]
  cases o with
  |none=>simp[sl,bO,bO.iu,b3,hb,nB];split<;>rfl
  |some l=>simp[sl,bO,bO.iu,b3,hb,nB];split<;>rfl
theorem vH {z b t:Nat}{f:α→AVal}{x:α}{y:AVal}{o v:Option (List α)}(hz:0<z)(hy:zy z y=I [f x])(hv:bH o [x]=I v):bO z b h (I t) (I (sl z f o)) (I y)=b3 (decide (b≤4096)) (I ⟨sl z f v,Gc,I t,h⟩):=by
 by_cases hb:b≤4096
 ·rw[Us hz hb hy hv (.inr rfl)];simp[b3,hb]
 ·have fi:decide (b≤4096)=Ga:=by simp[hb]
  rw[fi]
  cases o with
  |none=>simp[sl,bO,bO.iu,b3,hb,hy,nB]
  |some l=>simp[sl,bO,bO.iu,b3,hb,hy,nB]
theorem jek {z b t:Nat}{f:α→AVal}{o2 v:Option (List α)}(hv:bH (I []) (o2.getD [])=I v):bO (z+1) b h (I t) (I (.list Ga (z+1) [])) (I (sl (z+1) f o2))=b3 (decide (b≤4096)) (I ⟨sl (z+1) f v,Gc,I t,h⟩):=
 jlu (o:=I []) hv
end
def jd (s:List UInt8):AVal:=.str s
@[go_sem] theorem j4i {h0:Nat}{al:Option (List Nat)}{h:qh}{b:List UInt8}:gi h0 al Ga 1 h (I (.ah (jd b)))=I ⟨.str b,Ga,E3,h⟩:=rfl
@[go_sem] theorem j3i {n z:Nat}{l:Option (List (List UInt8))}:below n (sl z jd l)=Gc:=vC fun _=>rfl
theorem jcb {b t:Nat}{h:qh}{bb:Bool}{x:Int}{o v:Option (List Int)}(hv:bH o [x]=I v):bO 1 b h (I t) (I (sl 1 zw o)) (I (.list bb 1 [.int .i64 x]))=b3 (decide (b≤4096)) (I ⟨sl 1 zw v,Gc,I t,h⟩):=vH (by omega) rfl hv
theorem jbc {b t:Nat}{h:qh}{bb:Bool}{x:List UInt8}{o v:Option (List (List UInt8))}(hv:bH o [x]=I v):bO 1 b h (I t) (I (sl 1 jd o)) (I (.list bb 1 [.str x]))=b3 (decide (b≤4096)) (I ⟨sl 1 jd v,Gc,I t,h⟩):=vH (by omega) rfl hv
theorem qyg {p:j8}{xc:XC}{k:Nat}{args:List AVal}{v v':AVal}{o:Bool}{h:qh}(hp:p.cG k=E3)(hc:ql p xc k args []=I (v,o,h))(hz:aF h v=I v')(hv:below 0 v'=Gc)(hl:v.cJ=Gc):qc p xc k args=I (v',o):=by
 rw[zx hp hc hz hv,hl,Gz]
section
variable {p:j8}{xc:XC}{h0:Nat}{al:Option (List Nat)}{e:Env}{h:qh}{α:Type}
def vU (h0 r sz bytes:Nat)(zero:List AVal)(h:qh)(n c:Option AVal):Option bh:=match n,c with
 |some (.int .i64 (.ofNat n)),I (.int .i64 (.ofNat c))=>
  bif Gi n c&&Gq n 1073741824&&Gq bytes 4096&&Gi zero.length sz&&Nat.blt 0 sz&&zero.all qk then
   (match aK h0 h r (.cells (cellsOf (List.replicate n zero).flatten))with
    |some h'=>val h' (.ms (h0+r) 0 n)
    |none=>E3)else E3
 |_,_=>E3
@[go_sem] theorem zlg {r sz b:Nat}{z:List AVal}{n c:jt}:qf p xc h0 al e h (.cn (I r) sz b z n c)=vU h0 r sz b z h (qi e n) (qi e c):=by
 simp only[qf,qp,vU]
 rfl
def BQ (h0 r sz bytes:Nat)(h:qh)(own:Option Nat)(x y:Option AVal):Option bh:=match x,y with
 |some (.list Ga c8 []),I vy=>
  bif own.isSome&&Gi sz c8 then
   (match zy sz vy with
    |some ys=>
     bif Gq ys.length 1073741824&&Gq bytes 4096&&Nat.blt 0 sz then
      (match aK h0 h r (.cells (cellsOf (ys.flatMap AVal.flat)))with
       |some h'=>I ⟨.ms (h0+r) 0 ys.length,Ga,own,h'⟩
       |none=>E3)
     else E3
    |none=>E3)
  else E3
 |_,_=>E3
@[go_sem] theorem j9p {r sz b:Nat}{x y:jt}:qf p xc h0 al e h (.append (I r) sz b x y)=BQ h0 r sz b h (zq e x) (qi e x) (qi e y):=by
 simp only[qf,qp,BQ]
 rfl
def jua (own:Option Nat)(v:AVal)(r:Option qh):Option bh:=match r with
 |some h'=>I ⟨v,Ga,own,h'⟩
 |none=>E3
@[go_sem] theorem jzu {own:Option Nat}{v:AVal}:jua own v (I h)=I ⟨v,Ga,own,h⟩:=rfl
def MS (c:Option (List (AVal×Bool)))(off len:Nat):Option AVal:=match c with
 |some cs=>bif Dq off len cs then I (.list Ga (cs.length / len) (mA (cs.length / len) len (cs.map (·.1))))else(match zj cs off len with
  |some vs=>I (.list Ga 1 vs)
  |none=>E3)
 |none=>E3
@[go_sem] theorem EF {b o n:Nat}:aF h (.ms b o n)=MS (jw h b) o n:=by
 simp only[aF,ko,MS];rfl
@[go_sem] theorem j0y {z:Nat}{f:α→AVal}{o:Option (List α)}:Tf 0 Ga h (I (sl z f o))=I ⟨.bool o.isNone,Ga,E3,h⟩:=by cases o<;>rfl
theorem vI {z b:Nat}{f:α→AVal}{x:α}{y:AVal}{o v:Option (List α)}(hz:0<z)(hy:zy z y=I [f x])(hn:o.isNone=Gc)(hv:bH o [x]=I v):bO z b h E3 (I (sl z f o)) (I y)=b3 (decide (b≤4096)) (I ⟨sl z f v,Gc,E3,h⟩):=by
 cases o with
 |some l=>cases hn
 |none=>
  by_cases hb:b≤4096
  ·rw[Us hz hb hy hv (.inl rfl)];simp[b3,hb]
  ·have fi:decide (b≤4096)=Ga:=by simp[hb]
   rw[fi]
   simp[sl,bO,bO.iu,b3,hb,hy,nB]
theorem q87 {b:Nat}{bb:Bool}{x:Int}{o v:Option (List Int)}(hv:bH o [x]=I v)(hn:o.isNone=Gc):bO 1 b h E3 (I (sl 1 zw o)) (I (.list bb 1 [.int .i64 x]))=b3 (decide (b≤4096)) (I ⟨sl 1 zw v,Gc,E3,h⟩):=vI (by omega) rfl hn hv
attribute [go_sem] Nat.le_refl
end
@[go_sem] theorem zmk {h:qh}{a b c d:Int}:Ty [.int,.int] Gc h (I (.agg [.int .i64 a,.int .i64 b])) (I (.agg [.int .i64 c,.int .i64 d]))=I ⟨.bool (!(decide (a=c)&&decide (b=d))),Ga,E3,h⟩:=by
 show(match yv [.int,.int] [.int .i64 a,.int .i64 b] [.int .i64 c,.int .i64 d]with|some t=>val h (.bool (bif Gc then !t else t))|none=>E3)=_
 have:yv [.int,.int] [.int .i64 a,.int .i64 b] [.int .i64 c,.int .i64 d]=I (decide (a=c)&&decide (b=d)):=by
  have e:∀x y:Int,(x == y)=decide (x=y):=fun x y=>by by_cases h:x=y<;>simp[h]
  simp only[yv,mg,e,decide_true,cond_true]
  by_cases h1:a=c<;>by_cases h2:b=d<;>simp[h1,h2]
 rw[this]
 rfl
section
variable {p:j8}{xc:XC}{h0:Nat}{al:Option (List Nat)}{e:Env}{h:qh}
end
noncomputable def mf (p:j8)(more:xK)(op:Nat→Bool):j8:={ bM:=p.bM,dG:=p.dG,maps:=p.maps,cG:=fun k=>bif op k then E3 else match more k with
 |some f=>I f
 |none=>bif (p.bM k).isSome||(p.cG k).isSome||(p.dG k).isSome then I fun args=>qc p (X p) k args else E3 }
theorem q0y {p:j8}{xc:XC}{k:Nat}{args:List AVal}{r:AVal×Bool}(h:qc p xc k args=I r):((p.bM k).isSome||(p.cG k).isSome||(p.dG k).isSome)=Gc:=by
 unfold qc at h
 split at h
 ·rename_i f hf;simp[hf]
 ·split at h
  ·rename_i hc
   unfold ql at hc
   split at hc
   ·rename_i f hf;simp[hf]
   ·split at hc
    ·rename_i f hf;simp[hf]
    ·cases hc
  ·cases h
theorem jaj {p:j8}{more:xK}{op:Nat→Bool}{k:Nat}(ho:op k=Ga)(hm:more k=E3){xc:XC}{args:List AVal}{v:AVal}{o:Bool}(h:qc p (X p) k args=I (v,o))(hv:mr v=Gc):qc (mf p more op) xc k args=I (v,o):=by
 have hk:=q0y h
 unfold qc
 have:(mf p more op).cG k=I fun args=>qc p (X p) k args:=by simp only[mf,ho,cond_false,hm,hk,cond_true]
 rw[this]
 simp only[h,hv,cond_true]
theorem jc8 {p:j8}{more:xK}{op:Nat→Bool}{k:Nat}{f:List AVal→Option (AVal×Bool)}(ho:op k=Ga)(hm:more k=I f){xc:XC}{args:List AVal}{v:AVal}{o:Bool}(h:f args=I (v,o))(hv:mr v=Gc):qc (mf p more op) xc k args=I (v,o):=by
 unfold qc
 have:(mf p more op).cG k=I f:=by simp only[mf,ho,cond_false,hm]
 rw[this]
 simp only[h,hv,cond_true]
theorem jg5 {P:Program}{p:j8}{more:xK}{op:Nat→Bool}(hp:bW P p)(hm:∀k f,more k=I f→Enters P k∧∀args v o,f args=I (v,o)→mr v=Gc→qw 0 args=Gc→IsoCall P k args v o):bW P (mf p more op) where
 fn:=hp.fn
 maps:=hp.maps
 iE:=by
  intro k f hf
  cases ho:op k with
  |true=>
   have:(mf p more op).cG k=E3:=by simp only[mf,ho,cond_true]
   rw[this]at hf;cases hf
  |false=>
  cases yI:more k with
  |some g=>
   have:(mf p more op).cG k=I g:=by simp only[mf,ho,cond_false,yI]
   rw[this]at hf
   cases hf
   exact hm k _ yI
  |none=>
   cases hk:((p.bM k).isSome||(p.cG k).isSome||(p.dG k).isSome)with
   |false=>
    have:(mf p more op).cG k=E3:=by simp only[mf,ho,yI,hk,cond_false]
    rw[this]at hf;cases hf
   |true=>
    have:(mf p more op).cG k=I fun args=>qc p (X p) k args:=by simp only[mf,ho,cond_false,yI,hk,cond_true]
    rw[this]at hf
    cases hf
    refine⟨?_,fun args v o h _ hb=>q1y hp h hb⟩
    simp only[Bool.or_eq_true]at hk
    rcases hk with(h|h)|h
    ·obtain⟨af,ha⟩:=Gg.1 h
     exact hp.enters ha
    ·obtain⟨g,hg⟩:=Gg.1 h
     exact(hp.iE k g hg).1
    ·obtain⟨g,hg⟩:=Gg.1 h
     exact(hp.fU k g hg).1
 mixed:=hp.mixed
 fU:=hp.fU
theorem ya {i:Nat}(h:i<9223372036854775807):qe .i64 ((i:Int)+1)=((i+1:Nat):Int):=by
 rw[LP (by omega) (by omega)];rfl
variable {h:qh}
theorem jwb {b pos:Nat}{s:List UInt8}(hp:decide (pos<s.length)=Gc):vE h b (I (.iter s pos))=fp (jo h b (.iter s (pos+(qn s pos).2))) (.aC [.bool Gc,.int .i64 pos,.int .i32 (qn s pos).1]):=jli (of_decide_eq_true hp)
theorem jtg {b pos:Nat}{s:List UInt8}(hp:decide (pos<s.length)=Ga):vE h b (I (.iter s pos))=I ⟨.aC [.bool Ga],Ga,E3,h⟩:=jef (of_decide_eq_false hp)
end Go.Z
