/- What the line's functions compute, and the small functions of the checks. -/
import Derived.Test.YtimdocpnkimlfaaGreatDoorZC
import Derived.Test.YtimdocpnkimlfaaGreatDoorAbsL
set_option linter.unusedVariables false
set_option linter.unusedSimpArgs false
set_option maxRecDepth 100000
open Option renaming some→I,none→Ga,isSome_iff_exists→Gh,getD_none→Gx,getD_some→Gy,map_some→Gz
open Bool renaming false→Gb,true→Gd,or_true→Gn,true_or→Gs,and_true→G7,and_self→G8
open List renaming getElem?_eq_some_iff→Ge,length_nil→Gi,getElem?_eq_getElem→Gm,length_map→Gq,isEmpty_nil→Gt
open Nat renaming beq→Gj,ble→Gr
namespace Go.Z
open Go Go.Abs
theorem rL {α:Type}{l:List α}{i:Nat}{x:α}(hx:l[i]?=I x):l.drop i=x::l.drop (i+1):=by
 obtain⟨h1,h2⟩:=Ge.1 hx
 rw[List.drop_eq_getElem_cons h1,h2]
theorem je3 {i:Nat}{n:Nat}(h:i<n)(hn:n≤9223372036854775807):qe .i64 ((i:Int)+1)=((i+1:Nat):Int):=by
 rw[Lp (by omega) (by omega)];rfl
structure IJ where
 la:List UInt8
 values:Option (List Int)
def IK (u:IJ):AVal:=.agg [.str u.la,sl 1 z7 u.values]
@[go_sem] theorem j18 {u:IJ}:(IK u).flat=[.str u.la,sl 1 z7 u.values]:=rfl
theorem q6x {n:Nat}(u:IJ):below n (IK u)=Gd:=by simp only[IK,go_sem]
attribute [go_sem] q6x
def acc {α:Type}(z:Nat)(f:α→AVal)(l:List α):AVal:=match l with
 | []=>.list Gd 0 []
 |a::l=>.list Gb z ((a::l).map f)
def gu {α:Type}(l:List α):Bool:=!l.isEmpty
def jy {α:Type}(l:List α):Option (List α):=match l with
 | []=>Ga
 |a::l=>I (a::l)
@[go_sem] theorem zld {α:Type}{z:Nat}{f:α→AVal}:acc z f []=.list Gd 0 []:=rfl
@[go_sem] theorem zfs {α:Type}:gu (α:=α) []=Gb:=rfl
theorem Bk {α:Type}(l:List α)(x:α):gu (l++[x])=Gd:=by cases l<;>rfl
@[go_sem] theorem jx7 {n:Nat}:mP n []=Gd:=rfl
@[go_sem] theorem jq3 {n t:Nat}{v:AVal}{o:Bool}{e:Env}:mP n ((t,v,o)::e)=(below n v&&mP n e):=rfl
@[go_sem] theorem jyv {h0:Nat}{al:Option (List Nat)}{h:qi}{u:IJ}:ki h0 al Gd 2 h (I (.ai (IK u)))=I ⟨.agg [.str u.la,sl 1 z7 u.values],Gb,Ga,h⟩:=rfl
def oV (i:Nat)(x:Int):Bool:=decide (65≤x∧x≤90)||decide (97≤x∧x≤122)||(decide (i≠0)&&(decide (48≤x∧x≤57)||decide (x=95)))
theorem kinds (x:Int):x≤47∨(48≤x∧x≤57)∨(58≤x∧x≤64)∨(65≤x∧x≤90)∨(91≤x∧x≤94)∨x=95∨x=96∨(97≤x∧x≤122)∨123≤x:=by omega
def vI (i:Nat):List UInt8→Bool
 | []=>Gd
 |c::s=>oV i c.toNat&&vI (i+1) s
def dr (s:List UInt8):Bool:=decide (s≠[])&&decide (s.length≤24)&&vI 0 s
@[go_sem] theorem jnh {v:AVal}:jn 0 v []=[]:=rfl
@[go_sem] theorem jiw {h:qi}{u:IJ}:D1 Gb 0 1 h (I (.ai (IK u)))=I ⟨.ai (.str u.la),Gb,Ga,h⟩:=rfl
@[go_sem] theorem zlx {n:Nat}{v:AVal}{h:qi}:jn n v h=bif Gr h.length n then h else bif below n v&&zn n (h.take n)then h.take n else h:=rfl
@[go_sem] theorem jqv {n:Nat}:zn n []=Gd:=rfl
@[go_sem] theorem jqi {n:Nat}{b:bh}{h:qi}:zn n (b::h)=(pw n b&&zn n h):=rfl
@[go_sem] theorem jpq {n:Nat}{cs:List (AVal×Bool)}:pw n (.cells cs)=pv n cs:=rfl
@[go_sem] theorem jpe {n:Nat}:pv n []=Gd:=rfl
@[go_sem] theorem jm0 {n:Nat}{v:AVal}{o:Bool}{cs:List (AVal×Bool)}:pv n ((v,o)::cs)=(below n v&&pv n cs):=rfl
def wW (h0:Nat)(al:Option (List Nat))(sz:Nat)(h:qi)(x y:Option AVal):Option bj:=match x,y with
  |some (.ms b o len),I vy=>bif za h0 al b then(match ju h b with
   |some cs=>(match Ag sz len vy with
    |some (n,vs)=>(match jr cs o vs with
     |some eN=>bif Gj vs.length (n*sz)then(match jt h b (.cells eN)with
      |some h'=>val h' (.int .i64 n)
      |none=>Ga)else Ga
     |none=>Ga)
    |none=>Ga)
   |none=>Ga)else Ga
  |_,_=>Ga
@[go_sem] theorem zl1 {p:jz}{xc:XC}{h0:Nat}{al:Option (List Nat)}{e:Env}{h:qi}{sz:Nat}{x y:js}:qf p xc h0 al e h (.copy sz x y)=wW h0 al sz h (qh e x) (qh e y):=rfl
@[go_sem] theorem zmz {k:IntKind}{x:Int}:xR .neg (.int k x)=I (.int k (qe k (0-x))):=rfl
def Hf (ks:List Kd)(neq:Bool)(h:qi)(x y:Option AVal):Option bj:=match x,y with
  |some (.agg a),I (.agg b)=>bif Gj a.length ks.length&&Gj b.length ks.length then(match ya ks a b with
   |some t=>val h (.bool (bif neq then !t else t))
   |none=>Ga)else Ga
  |_,_=>Ga
@[go_sem] theorem zmj {p:jz}{xc:XC}{h0:Nat}{al:Option (List Nat)}{e:Env}{h:qi}{ks:List Kd}{neq:Bool}{x y:js}:qf p xc h0 al e h (.eqs ks neq x y)=Hf ks neq h (qh e x) (qh e y):=rfl
def conv (f g:Nat→Nat):Nat→Nat
 |0=>f 0*g 0
 |s+1=>f 0*g (s+1)+conv (fun k=>f (k+1)) g s
def j02 (b:Bool):AVal:=.bool b
@[go_sem] theorem jza {h0:Nat}{al:Option (List Nat)}{h:qi}{b:Bool}:ki h0 al Gb 1 h (I (.ai (j02 b)))=I ⟨.bool b,Gb,Ga,h⟩:=rfl
def qa {α β:Type}(x:Option α)(f:α→Option β):Option β:=match x with
 |some a=>f a
 |none=>Ga
@[simp] theorem T9 {α β:Type}{a:α}{f:α→Option β}:qa (I a) f=f a:=rfl
@[simp] theorem zbz {α β:Type}{f:α→Option β}:qa Ga f=Ga:=rfl
theorem qb {α β:Type}{x:Option α}{f:α→Option β}{r:β}(h:qa x f=I r):∃a,x=I a∧f a=I r:=by
 cases x with
 |none=>cases h
 |some a=>exact⟨a,rfl,h⟩
theorem qd {α:Type}{c:Bool}{a b r:α}(h:cond c a b=r):(c=Gd∧a=r)∨(c=Gb∧b=r):=by
 cases c
 ·exact .inr ⟨rfl,h⟩
 ·exact .inl ⟨rfl,h⟩
def oB {σ δ:Type}(f:σ→Option (σ⊕δ)):Nat→σ→Option δ
 |0,_=>Ga
 |n+1,s=>match f s with
  |none=>Ga
  |some (.inl s')=>oB f n s'
  |some (.inr d)=>I d
theorem q3q {σ δ:Type}{f:σ→Option (σ⊕δ)}{d:δ}:∀ {n:Nat} {s:σ},oB f n s=I d→oB f (n+1) s=I d
 |0,_,h=>by cases h
 |n+1,s,h=>by
  rw[oB]at h ⊢
  cases hf:f s with
  |none=>rw[hf]at h;cases h
  |some x=>
   rw[hf]at h
   cases x with
   |inl s'=>exact q3q h
   |inr d'=>exact h
theorem jdb {σ δ:Type}{f:σ→Option (σ⊕δ)}{d:δ}{n m:Nat}{s:σ}(hm:n≤m)(h:oB f n s=I d):oB f m s=I d:=by
 induction hm with
 |refl=>exact h
 |step _ ih=>exact q3q ih
open Classical in
noncomputable def bu {σ δ:Type}(f:σ→Option (σ⊕δ))(s:σ):Option δ:=
 if h:∃d n,oB f n s=I d then I (Classical.choose h)else Ga
theorem Mn {σ δ:Type}{f:σ→Option (σ⊕δ)}{s:σ}{d:δ}:bu f s=I d↔∃n,oB f n s=I d:=by
 unfold bu
 constructor
 ·intro h
  split at h
  ·rename_i hh;cases h;exact Classical.choose_spec hh
  ·cases h
 ·rintro ⟨n,hn⟩
  have hh:∃d n,oB f n s=I d:=⟨d,n,hn⟩
  rw[dif_pos hh]
  obtain⟨m,hm⟩:=Classical.choose_spec hh
  have h1:=jdb (Nat.le_max_left n m) hn
  have h2:=jdb (Nat.le_max_right n m) hm
  rw[h1]at h2
  exact h2.symm
theorem oh {σ δ:Type}{f:σ→Option (σ⊕δ)}{s s':σ}(h:f s=I (.inl s')):bu f s=bu f s':=by
 apply Option.ext
 intro d
 rw[Mn,Mn]
 constructor
 ·rintro ⟨n,hn⟩
  cases n with
  |zero=>cases hn
  |succ n=>rw[oB,h]at hn;exact⟨n,hn⟩
 ·rintro ⟨n,hn⟩
  exact⟨n+1,by rw[oB,h];exact hn⟩
theorem ko {σ δ:Type}{f:σ→Option (σ⊕δ)}{s:σ}{d:δ}(h:f s=I (.inr d)):bu f s=I d:=
 Mn.2 ⟨1,by rw[oB,h]⟩
theorem q8m {α γ σ δ ε:Type}(l:List α)(f:σ→Option (σ⊕δ))(mk:Nat→γ→σ)(g:Nat→γ→α→γ⊕ε)(En:γ→δ)(Ex:ε→δ)(Inv:Nat→γ→Prop)
  (dq:∀s,Inv l.length s→f (mk l.length s)=I (.inr (En s)))
  (cy:∀i s x,l[i]?=I x→i<l.length→Inv i s→match g i s x with
   | .inl s'=>Inv (i+1) s'∧f (mk i s)=I (.inl (mk (i+1) s'))
   | .inr d=>f (mk i s)=I (.inr (Ex d))):
  ∀(k i:Nat) (s:γ),i+k=l.length→Inv i s→bu f (mk i s)=I (match D2 g i s (l.drop i)with
   | .inl s=>En s
   | .inr d=>Ex d)
 |0,i,s,hi,hv=>by
  have gg:i=l.length:=by omega
  subst gg
  rw[List.drop_eq_nil_of_le (Nat.le_refl _),ko (dq s hv)]
  rfl
 |k+1,i,s,hi,hv=>by
  obtain⟨x,hx⟩:∃x,l[i]?=I x:=⟨_,Gm (by omega)⟩
  have hs:=cy i s x hx (by omega) hv
  rw[rL hx]
  simp only[D2]
  cases hg:g i s x with
  |inl s'=>
   rw[hg]at hs
   obtain⟨pG,h1⟩:=hs
   rw[oh h1]
   exact q8m l f mk g En Ex Inv dq cy k (i+1) s' (by omega) pG
  |inr d=>
   rw[hg]at hs
   rw[ko hs]
theorem q3v {α γ σ δ ε:Type}(l:List α)(f:σ→Option (σ⊕δ))(mk:Nat→γ→σ)(g:Nat→γ→α→γ⊕ε)(En:γ→δ)(Ex:ε→δ)(Inv:Nat→γ→Prop)(s:γ)
  (dq:∀s,Inv l.length s→f (mk l.length s)=I (.inr (En s)))
  (cy:∀i s x,l[i]?=I x→i<l.length→Inv i s→match g i s x with
   | .inl s'=>Inv (i+1) s'∧f (mk i s)=I (.inl (mk (i+1) s'))
   | .inr d=>f (mk i s)=I (.inr (Ex d))) (hv:Inv 0 s):
  bu f (mk 0 s)=I (match D2 g 0 s l with
   | .inl s=>En s
   | .inr d=>Ex d):=by
 have:=q8m l f mk g En Ex Inv dq cy l.length 0 s (by omega) hv
 rwa [List.drop_zero]at this
theorem Up {α ε:Type}(l:List α)(f:Int→Option (Int⊕(ε⊕Int)))(P:Nat→α→Prop)
  (dq:f (l.length:Int)=I (.inr (.inr (l.length:Int))))
  (cy:∀(i:Nat) (x:α),l[i]?=I x→(f (i:Int)=I (.inl ((i+1:Nat):Int))∧P i x)∨∃e,f (i:Int)=I (.inr (.inl e))):
  (∃e,bu f 0=I (.inl e))∨(bu f 0=I (.inr (l.length:Int))∧∀(i:Nat) (x:α),l[i]?=I x→P i x):=by
 have key:∀(k i:Nat),i+k=l.length→(∀(j:Nat) (x:α),j<i→l[j]?=I x→P j x) →
   (∃e,bu f (i:Int)=I (.inl e))∨(bu f (i:Int)=I (.inr (l.length:Int))∧∀(i:Nat) (x:α),l[i]?=I x→P i x):=by
  intro k
  induction k with
  |zero=>
   intro i hi hp
   have:i=l.length:=by omega
   subst this
   exact .inr ⟨ko dq,fun j x hx=>hp j x (Ge.1 hx).1 hx⟩
  |succ k ih=>
   intro i hi hp
   obtain⟨x,hx⟩:∃x,l[i]?=I x:=⟨_,Gm (by omega)⟩
   rcases cy i x hx with⟨h1,h2⟩|⟨e,h1⟩
   ·rw[oh h1]
    refine ih (i+1) (by omega) fun j y hj hy=>?_
    by_cases pD:j=i
    ·subst pD;rw[hx]at hy;cases hy;exact h2
    ·exact hp j y (by omega) hy
   ·exact .inl ⟨e,ko h1⟩
 exact key l.length 0 (by omega) fun j x hj=>absurd hj (by omega)
theorem jkz {ε:Type}(n:Nat)(f:Int→Option (Int⊕(ε⊕Int)))(dq:f (n:Int)=I (.inr (.inr (n:Int))))(cy:∀i:Nat,i<n→f (i:Int)=I (.inl ((i+1:Nat):Int))):bu f 0=I (.inr (n:Int)):=by
 have hl:(List.range n).length=n:=List.length_range
 rcases Up (List.range n) f (fun _ _=>True) (by rw[hl];exact dq) (fun i x hx=>.inl ⟨cy i (by have:=(Ge.1 hx).1;omega),trivial⟩)with⟨e,he⟩|⟨h,_⟩
 ·exfalso
  have key:∀(k i:Nat),i+k=n→bu f (i:Int)=I (.inr (n:Int)):=by
   intro k
   induction k with
   |zero=>
    intro i hi
    have:i=n:=by omega
    subst this
    exact ko dq
   |succ k ih=>intro i hi;rw[oh (cy i (by omega))];exact ih (i+1) (by omega)
  have:=key n 0 (by omega)
  rw[Int.natCast_zero,he]at this
  cases this
 ·rw[h,hl]
def jw {σ δ:Type}(p:jz)(c:aw)(St:σ→aY)(Ex:δ→jf×aY)(s:σ)(r:σ⊕δ):Prop:=match r with
 | .inl s'=>∃bX,X p c (St s)=I (.normal,bX)∧gc (St s).heap.length bX=St s'
 | .inr d=>X p c (St s)=I (Ex d)
theorem wI {σ δ:Type}{p:jz}{c:aw}{St:σ→aY}{Ex:δ→jf×aY}{s s':σ}{bX:aY}(hx:X p c (St s)=I (.normal,bX))(hc:gc (St s).heap.length bX=St s'):jw p c St Ex s (.inl s'):=⟨bX,hx,hc⟩
theorem qw {σ δ:Type}{p:jz}{c:aw}{St:σ→aY}{Ex:δ→jf×aY}{s:σ}{d:δ}(hx:X p c (St s)=I (Ex d)):jw p c St Ex s (.inr d):=hx
theorem jmy {σ δ:Type}{p:jz}{c:aw}{St:σ→aY}{Ex:δ→jf×aY}{f:σ→Option (σ⊕δ)}(hb:∀s r,f s=I r→jw p c St Ex s r)(hX:∀d,(Ex d).1≠.normal){d:δ}:
  ∀ {n:Nat} {s:σ},oB f n s=I d→X p (.loop c) (St s)=I (Ex d)
 |0,_,h=>by cases h
 |n+1,s,h=>by
  rw[oB]at h
  rw[jnt]
  cases hf:f s with
  |none=>rw[hf]at h;cases h
  |some x=>
   rw[hf]at h
   have hs:=hb s x hf
   cases x with
   |inl s'=>
    obtain⟨bX,h1,h2⟩:=hs
    rw[h1,q5r,h2]
    exact jmy hb hX h
   |inr d'=>
    cases h
    rw[show X p c (St s)=I (Ex d)from hs,jer (hX d)]
theorem jmm {σ δ:Type}{p:jz}{c:aw}{St:σ→aY}{Ex:δ→jf×aY}{f:σ→Option (σ⊕δ)}(hb:∀s r,f s=I r→jw p c St Ex s r)(hX:∀d,(Ex d).1≠.normal){s:σ}{d:δ}(h:bu f s=I d):X p (.loop c) (St s)=I (Ex d):=by
 obtain⟨n,hn⟩:=Mn.1 h
 exact jmy hb hX hn
theorem zc {σ δ:Type}{p:jz}{c:aw}{St:σ→aY}{Ex:δ→jf×aY}{f:σ→Option (σ⊕δ)}(hb:∀s r,f s=some r→jw p c St Ex s r){s:σ}{d:δ}(h:bu f s=some d)(hX:∀d,(Ex d).1≠.normal:=by first|exact fun d hh=>by cases hh|(intro d;rcases d with d|d|d<;>(intro hh;cases hh))|(intro d;rcases d with d|d<;>(intro hh;cases hh))):X p (.loop c) (St s)=some (Ex d):=jmm hb hX h
section
variable {h0:Nat}{al:Option (List Nat)}{h:qi}{α:Type}
def qr (l:List α)(i:Int):Option α:=if 0≤i then l[i.toNat]? else Ga
theorem jlr {l:List α}{i:Nat}:qr l (i:Int)=l[i]?:=by simp[qr]
theorem zj {z:Nat}{f:α→AVal}{l:Option (List α)}{k:IntKind}{i:Int}{x:α}(hx:qr (l.getD []) i=I x):iU z h (I (sl z f l)) (I (.int k i))=I ⟨.ai (f x),Gb,Ga,h⟩:=by
 unfold qr at hx
 by_cases hi:0≤i
 ·rw[if_pos hi]at hx
  obtain⟨n,rfl⟩:∃n:Nat,i=(n:Int):=⟨i.toNat,by omega⟩
  exact jsi (by simpa using hx)
 ·rw[if_neg hi]at hx;cases hx
theorem jjf {s:List UInt8}{k:IntKind}{i:Int}{c:UInt8}(hx:qr s i=I c):Bd h (I (.str s)) (I (.int k i))=I ⟨.int .u8 (c.toNat:Int),Gb,Ga,h⟩:=by
 unfold qr at hx
 by_cases hi:0≤i
 ·rw[if_pos hi]at hx
  obtain⟨n,rfl⟩:∃n:Nat,i=(n:Int):=⟨i.toNat,by omega⟩
  exact jdc (by simpa using hx)
 ·rw[if_neg hi]at hx;cases hx
end
section
variable {h:qi}
end
section
variable {p:jz}{xc:XC}{h0:Nat}{al:Option (List Nat)}{e:Env}{h:qi}
def Ur (k:IntKind)(h:qi)(x:Option AVal):Option bj:=match x with
 |some (.int _ n)=>val h (.int k (qe k n))
 |_=>Ga
@[go_sem] theorem zab {k k':IntKind}{n:Int}:Ur k h (I (.int k' n))=I ⟨.int k (qe k n),Gb,Ga,h⟩:=rfl
@[go_sem] theorem zl7 {k:IntKind}{x:js}:qf p xc h0 al e h (.conv k x)=Ur k h (qh e x):=by
 simp only[qf,qp,Ur]
 cases qh e x with
 |none=>rfl
 |some v=>cases v<;>rfl
def q2m (h:qi)(x:Option AVal):Option bj:=match x with
 |some (.str s)=>val h (.str s)
 |some (.int _ n)=>val h (.str (Utf8.encode n).data.toList)
 |_=>Ga
@[go_sem] theorem jsh {k:IntKind}{n:Int}:q2m h (I (.int k n))=I ⟨.str (Utf8.encode n).data.toList,Gb,Ga,h⟩:=rfl
@[go_sem] theorem jxn {s:List UInt8}:q2m h (I (.str s))=I ⟨.str s,Gb,Ga,h⟩:=rfl
def IL (h:qi)(x:Option AVal):Option bj:=match x with
 |some (.ptr b o)=>val h (.ptr b o)
 |some (.ai v)=>val h (.ai v)
 |some (.fn (.func f) a b)=>val h (.fn (.func f) a b)
 |_=>Ga
@[go_sem] theorem jsd {b o:Nat}:IL h (I (.ptr b o))=I ⟨.ptr b o,Gb,Ga,h⟩:=rfl
@[go_sem] theorem jqw {v:AVal}:IL h (I (.ai v))=I ⟨.ai v,Gb,Ga,h⟩:=rfl
@[go_sem] theorem jyi {f:Nat}{a b:List AVal}:IL h (I (.fn (.func f) a b))=I ⟨.fn (.func f) a b,Gb,Ga,h⟩:=rfl
@[go_sem] theorem j6a {x:js}:qf p xc h0 al e h (.nilCheck x)=IL h (qh e x):=by
 simp only[qf,qp,IL];rfl
def Us (agg:Bool)(off n:Nat)(h:qi)(x:Option AVal):Option bj:=match x with
 |some (.agg cs)=>gG h (Go.Abs.part agg cs off n)
 |_=>Ga
@[go_sem] theorem j71 {agg:Bool}{off n:Nat}{cs:List AVal}:Us agg off n h (I (.agg cs))=gG h (Go.Abs.part agg cs off n):=rfl
@[go_sem] theorem zlo {agg:Bool}{off n:Nat}{x:js}:qf p xc h0 al e h (.field agg off n x)=Us agg off n h (qh e x):=by
 simp only[qf,qp,Us]
 cases qh e x with
 |none=>rfl
 |some v=>cases v<;>rfl
def zlr (agg:Bool)(len n:Nat)(h:qi)(x i:Option AVal):Option bj:=match x,i with
 |some (.agg cs),I j=>(match idx len j with
  |some j=>gG h (Go.Abs.part agg cs (j*n) n)
  |none=>Ga)
 |_,_=>Ga
end
section
variable {p:jz}{xc:XC}{h0:Nat}{al:Option (List Nat)}{e:Env}{h:qi}{α:Type}
def rX (n lz:Nat):Option Int→Option Nat
 |none=>I lz
 |some i=>if 0≤i∧i≤n then I i.toNat else Ga
def Mh (s:List α)(lo hi:Option Int):Option (List α):=match rX s.length s.length hi with
 |some j=>(match rX j 0 lo with
  |some i=>I ((s.take j).drop i)
  |none=>Ga)
 |none=>Ga
def wK (o:Option (List α))(lo hi:Option Int):Option (Option (List α)):=match Mh (o.getD []) lo hi with
 |some l=>I (o.map fun _=>l)
 |none=>Ga
def sg (lz n:Nat):Option (Option AVal)→Option Nat
 |none=>I lz
 |some (I v)=>Af n v
 |some Ga=>Ga
theorem j0h {lz n:Nat}{x:Option js}:fF e lz n x=sg lz n (x.map (qh e)):=by
 cases x with
 |none=>rfl
 |some x=>simp only[fF,Gz,sg];cases qh e x<;>rfl
theorem jnn {n d:Nat}{k:IntKind}{i:Int}:Af n (.int k i)=rX n d (I i):=by
 unfold Af rX
 cases i with
 |ofNat m=>
  simp only[]
  by_cases hm:m≤n
  ·rw[if_pos ⟨by simp,by simpa using hm⟩,Nat.ble_eq_true_of_le hm];rfl
  ·rw[if_neg (by simp;omega)]
   cases hb:Gr m n with
   |true=>exact absurd (Nat.le_of_ble_eq_true hb) hm
   |false=>rfl
 |negSucc m=>simp
def Ut (k:IntKind):Option Int→Option (Option AVal)
 |none=>Ga
 |some i=>I (I (.int k i))
theorem je9 {d n:Nat}{k:IntKind}{x:Option Int}:sg d n (Ut k x)=rX n d x:=by
 cases x with
 |none=>rfl
 |some i=>exact jnn
def oP (sz:Nat)(h:qi)(x:Option AVal)(lo hi:Option (Option AVal)):Option bj:=match x with
 |some (.list n dl xs)=>bif Gj sz dl||xs.isEmpty then(match sg xs.length xs.length hi with
  |some j=>(match sg 0 j lo with
   |some i=>val h (.list n dl ((xs.take j).drop i))
   |none=>Ga)
  |none=>Ga)else Ga
 |some (.ms b o len)=>(match sg len len hi with
  |some j=>(match sg 0 j lo with
   |some i=>bif Gj i 0||Nat.blt i j then val h (.ms b (o+i*sz) (j-i))else Ga
   |none=>Ga)
  |none=>Ga)
 |some (.aj b bL len)=>(match sg len len hi with
  |some j=>(match sg 0 j lo with
   |some i=>bif Gj i 0 then val h (.aj b bL j)else Ga
   |none=>Ga)
  |none=>Ga)
 |_=>Ga
attribute [go_sem] Option.map_some Option.map_none
@[go_sem] theorem zk6 {sz:Nat}{x:js}{lo hi:Option js}:qf p xc h0 al e h (.slice sz x lo hi)=oP sz h (qh e x) (lo.map (qh e)) (hi.map (qh e)):=by
 simp only[qf,qp,oP,j0h]
 cases qh e x with
 |none=>rfl
 |some v=>cases v<;>rfl
theorem j0y {z:Nat}{k k':IntKind}{f:α→AVal}{o v:Option (List α)}{lo hi:Option Int}(hv:wK o lo hi=I v):oP z h (I (sl z f o)) (Ut k lo) (Ut k' hi)=I ⟨sl z f v,Gb,Ga,h⟩:=by
 unfold wK Mh at hv
 cases o with
 |none=>
  simp only[sl,oP,Gt,Gn,cond_true,je9]
  simp only[Gx]at hv
  cases h1:rX ([]:List α).length ([]:List α).length hi with
  |none=>rw[h1]at hv;cases hv
  |some j=>
   rw[h1]at hv
   simp only[]at hv
   cases h2:rX j 0 lo with
   |none=>rw[h2]at hv;cases hv
   |some i=>
    rw[h2]at hv
    cases hv
    simp only[Gi]at h1
    simp only[Gi,h1,h2,List.take_nil,List.drop_nil]
    rfl
 |some l=>
  simp only[sl,oP,Lr,decide_true,Gs,cond_true,je9,Gq]
  simp only[Gy]at hv
  cases h1:rX l.length l.length hi with
  |none=>rw[h1]at hv;cases hv
  |some j=>
   rw[h1]at hv
   simp only[]at hv
   cases h2:rX j 0 lo with
   |none=>rw[h2]at hv;cases hv
   |some i=>
    rw[h2]at hv
    cases hv
    simp only[h2,val,Gz,List.map_drop,List.map_take]
theorem jpz {z:Nat}{k:IntKind}{f:α→AVal}{o v:Option (List α)}{hi:Int}(hv:wK o Ga (I hi)=I v):oP z h (I (sl z f o)) Ga (I (I (.int k hi)))=I ⟨sl z f v,Gb,Ga,h⟩:=j0y (k:=k) hv
end
section
variable {h:qi}{α:Type}
def Ef (o:Option (List α))(ys:List α):Option (List α):=match o,ys with
 |none,[]=>Ga
 |o,ys=>I (o.getD []++ys)
def bB (o:Option (List α))(ys:List α):Option (Option (List α)):=if(o.getD []).length+ys.length≤1073741824 then I (Ef o ys)else Ga
theorem Uu {z b:Nat}{own:Option Nat}{f:α→AVal}{o:Option (List α)}{ys:List α}{v:Option (List α)}{y:AVal}(hz:0<z)(hb:b≤4096)(hy:zw z y=I (ys.map f))(hv:bB o ys=I v)
  (ho:o=Ga∨own.isSome=Gd):bQ z b h own (I (sl z f o)) (I y)=I ⟨sl z f v,Gd,own,h⟩:=by
 unfold bB at hv
 by_cases hl:(o.getD []).length+ys.length≤1073741824
 ·rw[if_pos hl]at hv;cases hv
  cases o with
  |none=>
   simp only[sl,bQ,bQ.iB,hy,cn,Gs,Gt,G7,Gn,Gi,Gq,nu,vt,hz,hb,decide_true]
   simp only[Gx,Gi]at hl
   simp only[hl,decide_true,G8,Gn]
   cases ys with
   |nil=>rfl
   |cons y ys=>simp[qF,Ef,sl]
  |some l=>
   have yE:own.isSome=Gd:=by rcases ho with h|h;cases h;exact h
   simp only[sl,bQ,bQ.iB,hy,cn,yE,Gn,Lr,nu,vt,hz,hb,decide_true,Gs,Gq]
   simp only[Gy]at hl
   simp only[hl,decide_true,G8]
   simp[qF,Ef,sl]
 ·rw[if_neg hl]at hv;cases hv
theorem jkg {z b t:Nat}{f:α→AVal}{o o2 v:Option (List α)}(hv:bB o (o2.getD [])=I v):bQ (z+1) b h (I t) (I (sl (z+1) f o)) (I (sl (z+1) f o2))=cn (decide (b≤4096)) (I ⟨sl (z+1) f v,Gd,I t,h⟩):=by
 by_cases hb:b≤4096
 ·rw[Uu (by omega) hb S5 hv (.inr rfl)];simp[cn,hb]
 ·have fH:decide (b≤4096)=Gb:=by simp[hb]
  rw[fH]
  cases o with
  |none=>simp[sl,bQ,bQ.iB,cn,hb,nu];split<;>rfl
  |some l=>simp[sl,bQ,bQ.iB,cn,hb,nu];split<;>rfl
theorem vA {z b t:Nat}{f:α→AVal}{x:α}{y:AVal}{o v:Option (List α)}(hz:0<z)(hy:zw z y=I [f x])(hv:bB o [x]=I v):bQ z b h (I t) (I (sl z f o)) (I y)=cn (decide (b≤4096)) (I ⟨sl z f v,Gd,I t,h⟩):=by
 by_cases hb:b≤4096
 ·rw[Uu hz hb hy hv (.inr rfl)];simp[cn,hb]
 ·have fH:decide (b≤4096)=Gb:=by simp[hb]
  rw[fH]
  cases o with
  |none=>simp[sl,bQ,bQ.iB,cn,hb,hy,nu]
  |some l=>simp[sl,bQ,bQ.iB,cn,hb,hy,nu]
theorem jel {z b t:Nat}{f:α→AVal}{o2 v:Option (List α)}(hv:bB (I []) (o2.getD [])=I v):bQ (z+1) b h (I t) (I (.list Gb (z+1) [])) (I (sl (z+1) f o2))=cn (decide (b≤4096)) (I ⟨sl (z+1) f v,Gd,I t,h⟩):=
 jkg (o:=I []) hv
end
def yl (s:List UInt8):AVal:=.str s
@[go_sem] theorem j20 {h0:Nat}{al:Option (List Nat)}{h:qi}{b:List UInt8}:ki h0 al Gb 1 h (I (.ai (yl b)))=I ⟨.str b,Gb,Ga,h⟩:=rfl
@[go_sem] theorem j2h {n z:Nat}{l:Option (List (List UInt8))}:below n (sl z yl l)=Gd:=vr fun _=>rfl
theorem q9f {b t:Nat}{h:qi}{bb:Bool}{x:Int}{o v:Option (List Int)}(hv:bB o [x]=I v):bQ 1 b h (I t) (I (sl 1 z7 o)) (I (.list bb 1 [.int .i64 x]))=cn (decide (b≤4096)) (I ⟨sl 1 z7 v,Gd,I t,h⟩):=vA (by omega) rfl hv
theorem q9g {b t:Nat}{h:qi}{bb:Bool}{x:List UInt8}{o v:Option (List (List UInt8))}(hv:bB o [x]=I v):bQ 1 b h (I t) (I (sl 1 yl o)) (I (.list bb 1 [.str x]))=cn (decide (b≤4096)) (I ⟨sl 1 yl v,Gd,I t,h⟩):=vA (by omega) rfl hv
theorem qy5 {p:jz}{xc:XC}{k:Nat}{args:List AVal}{v v':AVal}{o:Bool}{h:qi}(hp:p.cN k=Ga)(hc:qo p xc k args []=I (v,o,h))(hz:aK h v=I v')(hv:below 0 v'=Gd)(hl:v.cR=Gd):qc p xc k args=I (v',o):=by
 rw[zo hp hc hz hv,hl,G7]
section
variable {p:jz}{xc:XC}{h0:Nat}{al:Option (List Nat)}{e:Env}{h:qi}{α:Type}
def vN (h0 r sz bytes:Nat)(zero:List AVal)(h:qi)(n c:Option AVal):Option bj:=match n,c with
 |some (.int .i64 (.ofNat n)),I (.int .i64 (.ofNat c))=>
  bif Gj n c&&Gr n 1073741824&&Gr bytes 4096&&Gj zero.length sz&&Nat.blt 0 sz&&zero.all qk then
   (match aS h0 h r (.cells (cellsOf (List.replicate n zero).flatten))with
    |some h'=>val h' (.ms (h0+r) 0 n)
    |none=>Ga)else Ga
 |_,_=>Ga
@[go_sem] theorem zk7 {r sz b:Nat}{z:List AVal}{n c:js}:qf p xc h0 al e h (.cu (I r) sz b z n c)=vN h0 r sz b z h (qh e n) (qh e c):=by
 simp only[qf,qq,vN]
 rfl
def BU (h0 r sz bytes:Nat)(h:qi)(own:Option Nat)(x y:Option AVal):Option bj:=match x,y with
 |some (.list Gb dl []),I vy=>
  bif own.isSome&&Gj sz dl then
   (match zw sz vy with
    |some ys=>
     bif Gr ys.length 1073741824&&Gr bytes 4096&&Nat.blt 0 sz then
      (match aS h0 h r (.cells (cellsOf (ys.flatMap AVal.flat)))with
       |some h'=>I ⟨.ms (h0+r) 0 ys.length,Gb,own,h'⟩
       |none=>Ga)
     else Ga
    |none=>Ga)
  else Ga
 |_,_=>Ga
@[go_sem] theorem zar {r sz b:Nat}{x y:js}:qf p xc h0 al e h (.append (I r) sz b x y)=BU h0 r sz b h (zm e x) (qh e x) (qh e y):=by
 simp only[qf,qq,BU]
 rfl
def js2 (own:Option Nat)(v:AVal)(r:Option qi):Option bj:=match r with
 |some h'=>I ⟨v,Gb,own,h'⟩
 |none=>Ga
@[go_sem] theorem jzi {own:Option Nat}{v:AVal}:js2 own v (I h)=I ⟨v,Gb,own,h⟩:=rfl
def Mp (c:Option (List (AVal×Bool)))(off len:Nat):Option AVal:=match c with
 |some cs=>bif Dq off len cs then I (.list Gb (cs.length / len) (mf (cs.length / len) len (cs.map (·.1))))else(match zi cs off len with
  |some vs=>I (.list Gb 1 vs)
  |none=>Ga)
 |none=>Ga
@[go_sem] theorem EC {b o n:Nat}:aK h (.ms b o n)=Mp (ju h b) o n:=by
 simp only[aK,yq,Mp];rfl
@[go_sem] theorem j7w {z:Nat}{f:α→AVal}{o:Option (List α)}:Tb 0 Gb h (I (sl z f o))=I ⟨.bool o.isNone,Gb,Ga,h⟩:=by cases o<;>rfl
theorem vB {z b:Nat}{f:α→AVal}{x:α}{y:AVal}{o v:Option (List α)}(hz:0<z)(hy:zw z y=I [f x])(hn:o.isNone=Gd)(hv:bB o [x]=I v):bQ z b h Ga (I (sl z f o)) (I y)=cn (decide (b≤4096)) (I ⟨sl z f v,Gd,Ga,h⟩):=by
 cases o with
 |some l=>cases hn
 |none=>
  by_cases hb:b≤4096
  ·rw[Uu hz hb hy hv (.inl rfl)];simp[cn,hb]
  ·have fH:decide (b≤4096)=Gb:=by simp[hb]
   rw[fH]
   simp[sl,bQ,bQ.iB,cn,hb,hy,nu]
theorem q95 {b:Nat}{bb:Bool}{x:Int}{o v:Option (List Int)}(hv:bB o [x]=I v)(hn:o.isNone=Gd):bQ 1 b h Ga (I (sl 1 z7 o)) (I (.list bb 1 [.int .i64 x]))=cn (decide (b≤4096)) (I ⟨sl 1 z7 v,Gd,Ga,h⟩):=vB (by omega) rfl hn hv
attribute [go_sem] Nat.le_refl
end
@[go_sem] theorem zmo {h:qi}{a b c d:Int}:Hf [.int,.int] Gd h (I (.agg [.int .i64 a,.int .i64 b])) (I (.agg [.int .i64 c,.int .i64 d]))=I ⟨.bool (!(decide (a=c)&&decide (b=d))),Gb,Ga,h⟩:=by
 show(match ya [.int,.int] [.int .i64 a,.int .i64 b] [.int .i64 c,.int .i64 d]with|some t=>val h (.bool (bif Gd then !t else t))|none=>Ga)=_
 have:ya [.int,.int] [.int .i64 a,.int .i64 b] [.int .i64 c,.int .i64 d]=I (decide (a=c)&&decide (b=d)):=by
  have e:∀x y:Int,(x == y)=decide (x=y):=fun x y=>by by_cases h:x=y<;>simp[h]
  simp only[ya,lv,e,decide_true,cond_true]
  by_cases h1:a=c<;>by_cases h2:b=d<;>simp[h1,h2]
 rw[this]
 rfl
section
variable {p:jz}{xc:XC}{h0:Nat}{al:Option (List Nat)}{e:Env}{h:qi}
end
noncomputable def mb (p:jz)(more:xQ)(op:Nat→Bool):jz:={ bO:=p.bO,dS:=p.dS,maps:=p.maps,cN:=fun k=>bif op k then Ga else match more k with
 |some f=>I f
 |none=>bif (p.bO k).isSome||(p.cN k).isSome||(p.dS k).isSome then I fun args=>qc p (X p) k args else Ga }
theorem q0m {p:jz}{xc:XC}{k:Nat}{args:List AVal}{r:AVal×Bool}(h:qc p xc k args=I r):((p.bO k).isSome||(p.cN k).isSome||(p.dS k).isSome)=Gd:=by
 unfold qc at h
 split at h
 ·rename_i f hf;simp[hf]
 ·split at h
  ·rename_i hc
   unfold qo at hc
   split at hc
   ·rename_i f hf;simp[hf]
   ·split at hc
    ·rename_i f hf;simp[hf]
    ·cases hc
  ·cases h
theorem q8t {p:jz}{more:xQ}{op:Nat→Bool}{k:Nat}(ho:op k=Gb)(hm:more k=Ga){xc:XC}{args:List AVal}{v:AVal}{o:Bool}(h:qc p (X p) k args=I (v,o))(hv:mc v=Gd):qc (mb p more op) xc k args=I (v,o):=by
 have hk:=q0m h
 unfold qc
 have:(mb p more op).cN k=I fun args=>qc p (X p) k args:=by simp only[mb,ho,cond_false,hm,hk,cond_true]
 rw[this]
 simp only[h,hv,cond_true]
theorem q9u {p:jz}{more:xQ}{op:Nat→Bool}{k:Nat}{f:List AVal→Option (AVal×Bool)}(ho:op k=Gb)(hm:more k=I f){xc:XC}{args:List AVal}{v:AVal}{o:Bool}(h:f args=I (v,o))(hv:mc v=Gd):qc (mb p more op) xc k args=I (v,o):=by
 unfold qc
 have:(mb p more op).cN k=I f:=by simp only[mb,ho,cond_false,hm]
 rw[this]
 simp only[h,hv,cond_true]
theorem jh2 {P:Program}{p:jz}{more:xQ}{op:Nat→Bool}(hp:bZ P p)(hm:∀k f,more k=I f→Enters P k∧∀args v o,f args=I (v,o)→mc v=Gd→qy 0 args=Gd→IsoCall P k args v o):bZ P (mb p more op) where
 fn:=hp.fn
 maps:=hp.maps
 iL:=by
  intro k f hf
  cases ho:op k with
  |true=>
   have:(mb p more op).cN k=Ga:=by simp only[mb,ho,cond_true]
   rw[this]at hf;cases hf
  |false=>
  cases yL:more k with
  |some g=>
   have:(mb p more op).cN k=I g:=by simp only[mb,ho,cond_false,yL]
   rw[this]at hf
   cases hf
   exact hm k _ yL
  |none=>
   cases hk:((p.bO k).isSome||(p.cN k).isSome||(p.dS k).isSome)with
   |false=>
    have:(mb p more op).cN k=Ga:=by simp only[mb,ho,yL,hk,cond_false]
    rw[this]at hf;cases hf
   |true=>
    have:(mb p more op).cN k=I fun args=>qc p (X p) k args:=by simp only[mb,ho,cond_false,yL,hk,cond_true]
    rw[this]at hf
    cases hf
    refine⟨?_,fun args v o h _ hb=>q4p hp h hb⟩
    simp only[Bool.or_eq_true]at hk
    rcases hk with(h|h)|h
    ·obtain⟨af,ha⟩:=Gh.1 h
     exact hp.enters ha
    ·obtain⟨g,hg⟩:=Gh.1 h
     exact(hp.iL k g hg).1
    ·obtain⟨g,hg⟩:=Gh.1 h
     exact(hp.fW k g hg).1
 mixed:=hp.mixed
 fW:=hp.fW
theorem ye {i:Nat}(h:i<9223372036854775807):qe .i64 ((i:Int)+1)=((i+1:Nat):Int):=by
 rw[Lp (by omega) (by omega)];rfl
variable {h:qi}
theorem jrs {b pos:Nat}{s:List UInt8}(hp:decide (pos<s.length)=Gd):vw h b (I (.iter s pos))=iA (jt h b (.iter s (pos+(qn s pos).2))) (.aJ [.bool Gd,.int .i64 pos,.int .i32 (qn s pos).1]):=jjk (of_decide_eq_true hp)
theorem jw2 {b pos:Nat}{s:List UInt8}(hp:decide (pos<s.length)=Gb):vw h b (I (.iter s pos))=I ⟨.aJ [.bool Gb],Gb,Ga,h⟩:=jdn (of_decide_eq_false hp)
end Go.Z
