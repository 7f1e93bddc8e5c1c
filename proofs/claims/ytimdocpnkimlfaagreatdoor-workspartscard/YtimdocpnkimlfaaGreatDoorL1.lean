/- What the line's functions compute, and the small functions of the checks. -/
import Derived.Test.YtimdocpnkimlfaaGreatDoorZC
import Derived.Test.YtimdocpnkimlfaaGreatDoorAbsL
set_option linter.unusedVariables false
set_option linter.unusedSimpArgs false
set_option maxRecDepth 100000
open Option renaming some→I,none→Ey,isSome_iff_exists→Gq,getD_none→G5,getD_some→G6,map_some→G7
open Bool renaming false→Gn,true→Gp,or_true→Gy,true_or→G1,and_true→G9,and_self→Ha
open List renaming length_nil→Gs,getElem?_eq_some_iff→Gv,getElem?_eq_getElem→Gw,length_map→Gz,isEmpty_nil→G2
open Nat renaming beq→Gt,ble→G0
namespace Go.Z
open Go Go.Abs
theorem rW {α:Type}{l:List α}{i:Nat}{x:α}(hx:l[i]?=I x):l.drop i=x::l.drop (i+1):=by
 obtain⟨h1,h2⟩:=Gv.1 hx
 rw[List.drop_eq_getElem_cons h1,h2]
theorem jf4 {i:Nat}{n:Nat}(h:i<n)(hn:n≤9223372036854775807):qe .i64 ((i:Int)+1)=((i+1:Nat):Int):=by
 rw[MS (by omega) (by omega)];rfl
structure JK where
 ln:List UInt8
 values:Option (List Int)
def JL (u:JK):AVal:=.agg [.str u.ln,sl 1 jm u.values]
@[go_sem] theorem j6n {u:JK}:(JL u).flat=[.str u.ln,sl 1 jm u.values]:=rfl
theorem q7w {n:Nat}(u:JK):below n (JL u)=Gp:=by simp only[JL,go_sem]
attribute [go_sem] q7w
def acc {α:Type}(z:Nat)(f:α→AVal)(l:List α):AVal:=match l with
 | []=>.list Gp 0 []
 |a::l=>.list Gn z ((a::l).map f)
def ic {α:Type}(l:List α):Bool:=!l.isEmpty
def jl {α:Type}(l:List α):Option (List α):=match l with
 | []=>Ey
 |a::l=>I (a::l)
@[go_sem] theorem zmp {α:Type}{z:Nat}{f:α→AVal}:acc z f []=.list Gp 0 []:=rfl
@[go_sem] theorem zgn {α:Type}:ic (α:=α) []=Gn:=rfl
theorem Cc {α:Type}(l:List α)(x:α):ic (l++[x])=Gp:=by cases l<;>rfl
@[go_sem] theorem jvx {n:Nat}:nj n []=Gp:=rfl
@[go_sem] theorem jsh {n t:Nat}{v:AVal}{o:Bool}{e:Env}:nj n ((t,v,o)::e)=(below n v&&nj n e):=rfl
@[go_sem] theorem j0f {h0:Nat}{al:Option (List Nat)}{h:qh}{u:JK}:gC h0 al Gp 2 h (I (.ah (JL u)))=I ⟨.agg [.str u.ln,sl 1 jm u.values],Gn,Ey,h⟩:=rfl
def pn (i:Nat)(x:Int):Bool:=decide (65≤x∧x≤90)||decide (97≤x∧x≤122)||(decide (i≠0)&&(decide (48≤x∧x≤57)||decide (x=95)))
theorem kinds (x:Int):x≤47∨(48≤x∧x≤57)∨(58≤x∧x≤64)∨(65≤x∧x≤90)∨(91≤x∧x≤94)∨x=95∨x=96∨(97≤x∧x≤122)∨123≤x:=by omega
def vX (i:Nat):List UInt8→Bool
 | []=>Gp
 |c::s=>pn i c.toNat&&vX (i+1) s
def cG (s:List UInt8):Bool:=decide (s≠[])&&decide (s.length≤24)&&vX 0 s
@[go_sem] theorem jou {v:AVal}:zg 0 v []=[]:=rfl
@[go_sem] theorem jld {h:qh}{u:JK}:E2 Gn 0 1 h (I (.ah (JL u)))=I ⟨.ah (.str u.ln),Gn,Ey,h⟩:=rfl
@[go_sem] theorem zmz {n:Nat}{v:AVal}{h:qh}:zg n v h=bif G0 h.length n then h else bif below n v&&zw n (h.take n)then h.take n else h:=rfl
@[go_sem] theorem jst {n:Nat}:zw n []=Gp:=rfl
@[go_sem] theorem jp9 {n:Nat}{b:bh}{h:qh}:zw n (b::h)=(pF n b&&zw n h):=rfl
@[go_sem] theorem jrt {n:Nat}{cs:List (AVal×Bool)}:pF n (.cells cs)=pE n cs:=rfl
@[go_sem] theorem jq8 {n:Nat}:pE n []=Gp:=rfl
@[go_sem] theorem jo8 {n:Nat}{v:AVal}{o:Bool}{cs:List (AVal×Bool)}:pE n ((v,o)::cs)=(below n v&&pE n cs):=rfl
def xm (h0:Nat)(al:Option (List Nat))(sz:Nat)(h:qh)(x y:Option AVal):Option bj:=match x,y with
  |some (.ms b o len),I vy=>bif zd h0 al b then(match jy h b with
   |some cs=>(match A4 sz len vy with
    |some (n,vs)=>(match jw cs o vs with
     |some eK=>bif Gt vs.length (n*sz)then(match jt h b (.cells eK)with
      |some h'=>val h' (.int .i64 n)
      |none=>Ey)else Ey
     |none=>Ey)
    |none=>Ey)
   |none=>Ey)else Ey
  |_,_=>Ey
@[go_sem] theorem zm1 {p:zb}{xc:XC}{h0:Nat}{al:Option (List Nat)}{e:Env}{h:qh}{sz:Nat}{x y:jx}:qf p xc h0 al e h (.copy sz x y)=xm h0 al sz h (qi e x) (qi e y):=rfl
@[go_sem] theorem znt {k:IntKind}{x:Int}:yJ .neg (.int k x)=I (.int k (qe k (0-x))):=rfl
def Xu (ks:List Kd)(neq:Bool)(h:qh)(x y:Option AVal):Option bj:=match x,y with
  |some (.agg a),I (.agg b)=>bif Gt a.length ks.length&&Gt b.length ks.length then(match y6 ks a b with
   |some t=>val h (.bool (bif neq then !t else t))
   |none=>Ey)else Ey
  |_,_=>Ey
@[go_sem] theorem zn2 {p:zb}{xc:XC}{h0:Nat}{al:Option (List Nat)}{e:Env}{h:qh}{ks:List Kd}{neq:Bool}{x y:jx}:qf p xc h0 al e h (.eqs ks neq x y)=Xu ks neq h (qi e x) (qi e y):=rfl
def conv (f g:Nat→Nat):Nat→Nat
 |0=>f 0*g 0
 |s+1=>f 0*g (s+1)+conv (fun k=>f (k+1)) g s
def j3c (b:Bool):AVal:=.bool b
@[go_sem] theorem jzw {h0:Nat}{al:Option (List Nat)}{h:qh}{b:Bool}:gC h0 al Gn 1 h (I (.ah (j3c b)))=I ⟨.bool b,Gn,Ey,h⟩:=rfl
def qa {α β:Type}(x:Option α)(f:α→Option β):Option β:=match x with
 |some a=>f a
 |none=>Ey
@[simp] theorem X9 {α β:Type}{a:α}{f:α→Option β}:qa (I a) f=f a:=rfl
@[simp] theorem zha {α β:Type}{f:α→Option β}:qa Ey f=Ey:=rfl
theorem qb {α β:Type}{x:Option α}{f:α→Option β}{r:β}(h:qa x f=I r):∃a,x=I a∧f a=I r:=by
 cases x with
 |none=>cases h
 |some a=>exact⟨a,rfl,h⟩
theorem qd {α:Type}{c:Bool}{a b r:α}(h:cond c a b=r):(c=Gp∧a=r)∨(c=Gn∧b=r):=by
 cases c
 ·exact .inr ⟨rfl,h⟩
 ·exact .inl ⟨rfl,h⟩
def oM {σ δ:Type}(f:σ→Option (σ⊕δ)):Nat→σ→Option δ
 |0,_=>Ey
 |n+1,s=>match f s with
  |none=>Ey
  |some (.inl s')=>oM f n s'
  |some (.inr d)=>I d
theorem q48 {σ δ:Type}{f:σ→Option (σ⊕δ)}{d:δ}:∀ {n:Nat} {s:σ},oM f n s=I d→oM f (n+1) s=I d
 |0,_,h=>by cases h
 |n+1,s,h=>by
  rw[oM]at h ⊢
  cases hf:f s with
  |none=>rw[hf]at h;cases h
  |some x=>
   rw[hf]at h
   cases x with
   |inl s'=>exact q48 h
   |inr d'=>exact h
theorem jfe {σ δ:Type}{f:σ→Option (σ⊕δ)}{d:δ}{n m:Nat}{s:σ}(hm:n≤m)(h:oM f n s=I d):oM f m s=I d:=by
 induction hm with
 |refl=>exact h
 |step _ ih=>exact q48 ih
open Classical in
noncomputable def bm {σ δ:Type}(f:σ→Option (σ⊕δ))(s:σ):Option δ:=
 if h:∃d n,oM f n s=I d then I (Classical.choose h)else Ey
theorem NQ {σ δ:Type}{f:σ→Option (σ⊕δ)}{s:σ}{d:δ}:bm f s=I d↔∃n,oM f n s=I d:=by
 unfold bm
 constructor
 ·intro h
  split at h
  ·rename_i hh;cases h;exact Classical.choose_spec hh
  ·cases h
 ·rintro ⟨n,hn⟩
  have hh:∃d n,oM f n s=I d:=⟨d,n,hn⟩
  rw[dif_pos hh]
  obtain⟨m,hm⟩:=Classical.choose_spec hh
  have h1:=jfe (Nat.le_max_left n m) hn
  have h2:=jfe (Nat.le_max_right n m) hm
  rw[h1]at h2
  exact h2.symm
theorem oA {σ δ:Type}{f:σ→Option (σ⊕δ)}{s s':σ}(h:f s=I (.inl s')):bm f s=bm f s':=by
 apply Option.ext
 intro d
 rw[NQ,NQ]
 constructor
 ·rintro ⟨n,hn⟩
  cases n with
  |zero=>cases hn
  |succ n=>rw[oM,h]at hn;exact⟨n,hn⟩
 ·rintro ⟨n,hn⟩
  exact⟨n+1,by rw[oM,h];exact hn⟩
theorem ki {σ δ:Type}{f:σ→Option (σ⊕δ)}{s:σ}{d:δ}(h:f s=I (.inr d)):bm f s=I d:=
 NQ.2 ⟨1,by rw[oM,h]⟩
theorem q87 {α γ σ δ ε:Type}(l:List α)(f:σ→Option (σ⊕δ))(mk:Nat→γ→σ)(g:Nat→γ→α→γ⊕ε)(En:γ→δ)(Ex:ε→δ)(Inv:Nat→γ→Prop)
  (dD:∀s,Inv l.length s→f (mk l.length s)=I (.inr (En s)))
  (cK:∀i s x,l[i]?=I x→i<l.length→Inv i s→match g i s x with
   | .inl s'=>Inv (i+1) s'∧f (mk i s)=I (.inl (mk (i+1) s'))
   | .inr d=>f (mk i s)=I (.inr (Ex d))):
  ∀(k i:Nat) (s:γ),i+k=l.length→Inv i s→bm f (mk i s)=I (match E3 g i s (l.drop i)with
   | .inl s=>En s
   | .inr d=>Ex d)
 |0,i,s,hi,hv=>by
  have fC:i=l.length:=by omega
  subst fC
  rw[List.drop_eq_nil_of_le (Nat.le_refl _),ki (dD s hv)]
  rfl
 |k+1,i,s,hi,hv=>by
  obtain⟨x,hx⟩:∃x,l[i]?=I x:=⟨_,Gw (by omega)⟩
  have hs:=cK i s x hx (by omega) hv
  rw[rW hx]
  simp only[E3]
  cases hg:g i s x with
  |inl s'=>
   rw[hg]at hs
   obtain⟨vE,h1⟩:=hs
   rw[oA h1]
   exact q87 l f mk g En Ex Inv dD cK k (i+1) s' (by omega) vE
  |inr d=>
   rw[hg]at hs
   rw[ki hs]
theorem q63 {α γ σ δ ε:Type}(l:List α)(f:σ→Option (σ⊕δ))(mk:Nat→γ→σ)(g:Nat→γ→α→γ⊕ε)(En:γ→δ)(Ex:ε→δ)(Inv:Nat→γ→Prop)(s:γ)
  (dD:∀s,Inv l.length s→f (mk l.length s)=I (.inr (En s)))
  (cK:∀i s x,l[i]?=I x→i<l.length→Inv i s→match g i s x with
   | .inl s'=>Inv (i+1) s'∧f (mk i s)=I (.inl (mk (i+1) s'))
   | .inr d=>f (mk i s)=I (.inr (Ex d))) (hv:Inv 0 s):
  bm f (mk 0 s)=I (match E3 g 0 s l with
   | .inl s=>En s
   | .inr d=>Ex d):=by
 have:=q87 l f mk g En Ex Inv dD cK l.length 0 s (by omega) hv
 rwa [List.drop_zero]at this
theorem q88 {α ε:Type}(l:List α)(f:Int→Option (Int⊕(ε⊕Int)))(P:Nat→α→Prop)
  (dD:f (l.length:Int)=I (.inr (.inr (l.length:Int))))
  (cK:∀(i:Nat) (x:α),l[i]?=I x→(f (i:Int)=I (.inl ((i+1:Nat):Int))∧P i x)∨∃e,f (i:Int)=I (.inr (.inl e))):
  (∃e,bm f 0=I (.inl e))∨(bm f 0=I (.inr (l.length:Int))∧∀(i:Nat) (x:α),l[i]?=I x→P i x):=by
 have key:∀(k i:Nat),i+k=l.length→(∀(j:Nat) (x:α),j<i→l[j]?=I x→P j x) →
   (∃e,bm f (i:Int)=I (.inl e))∨(bm f (i:Int)=I (.inr (l.length:Int))∧∀(i:Nat) (x:α),l[i]?=I x→P i x):=by
  intro k
  induction k with
  |zero=>
   intro i hi hp
   have:i=l.length:=by omega
   subst this
   exact .inr ⟨ki dD,fun j x hx=>hp j x (Gv.1 hx).1 hx⟩
  |succ k ih=>
   intro i hi hp
   obtain⟨x,hx⟩:∃x,l[i]?=I x:=⟨_,Gw (by omega)⟩
   rcases cK i x hx with⟨h1,h2⟩|⟨e,h1⟩
   ·rw[oA h1]
    refine ih (i+1) (by omega) fun j y hj hy=>?_
    by_cases pM:j=i
    ·subst pM;rw[hx]at hy;cases hy;exact h2
    ·exact hp j y (by omega) hy
   ·exact .inl ⟨e,ki h1⟩
 exact key l.length 0 (by omega) fun j x hj=>absurd hj (by omega)
def jz {σ δ:Type}(p:zb)(c:au)(St:σ→bf)(Ex:δ→jf×bf)(s:σ)(r:σ⊕δ):Prop:=match r with
 | .inl s'=>∃bV,X p c (St s)=I (.normal,bV)∧gc (St s).heap.length bV=St s'
 | .inr d=>X p c (St s)=I (Ex d)
theorem E5 {σ δ:Type}{p:zb}{c:au}{St:σ→bf}{Ex:δ→jf×bf}{s s':σ}{bV:bf}(hx:X p c (St s)=I (.normal,bV))(hc:gc (St s).heap.length bV=St s'):jz p c St Ex s (.inl s'):=⟨bV,hx,hc⟩
theorem qz {σ δ:Type}{p:zb}{c:au}{St:σ→bf}{Ex:δ→jf×bf}{s:σ}{d:δ}(hx:X p c (St s)=I (Ex d)):jz p c St Ex s (.inr d):=hx
theorem jox {σ δ:Type}{p:zb}{c:au}{St:σ→bf}{Ex:δ→jf×bf}{f:σ→Option (σ⊕δ)}(hb:∀s r,f s=I r→jz p c St Ex s r)(hX:∀d,(Ex d).1≠.normal){d:δ}:
  ∀ {n:Nat} {s:σ},oM f n s=I d→X p (.loop c) (St s)=I (Ex d)
 |0,_,h=>by cases h
 |n+1,s,h=>by
  rw[oM]at h
  rw[jr5]
  cases hf:f s with
  |none=>rw[hf]at h;cases h
  |some x=>
   rw[hf]at h
   have hs:=hb s x hf
   cases x with
   |inl s'=>
    obtain⟨bV,h1,h2⟩:=hs
    rw[h1,q61,h2]
    exact jox hb hX h
   |inr d'=>
    cases h
    rw[show X p c (St s)=I (Ex d)from hs,jg6 (hX d)]
theorem jn7 {σ δ:Type}{p:zb}{c:au}{St:σ→bf}{Ex:δ→jf×bf}{f:σ→Option (σ⊕δ)}(hb:∀s r,f s=I r→jz p c St Ex s r)(hX:∀d,(Ex d).1≠.normal){s:σ}{d:δ}(h:bm f s=I d):X p (.loop c) (St s)=I (Ex d):=by
 obtain⟨n,hn⟩:=NQ.1 h
 exact jox hb hX hn
theorem zj {σ δ:Type}{p:zb}{c:au}{St:σ→bf}{Ex:δ→jf×bf}{f:σ→Option (σ⊕δ)}(hb:∀s r,f s=some r→jz p c St Ex s r){s:σ}{d:δ}(h:bm f s=some d)(hX:∀d,(Ex d).1≠.normal:=by first|exact fun d hh=>by cases hh|(intro d;rcases d with d|d|d<;>(intro hh;cases hh))|(intro d;rcases d with d|d<;>(intro hh;cases hh))):X p (.loop c) (St s)=some (Ex d):=jn7 hb hX h
section
variable {h0:Nat}{al:Option (List Nat)}{h:qh}{α:Type}
def qr (l:List α)(i:Int):Option α:=if 0≤i then l[i.toNat]? else Ey
theorem jj9 {l:List α}{i:Nat}:qr l (i:Int)=l[i]?:=by simp[qr]
theorem yb {z:Nat}{f:α→AVal}{l:Option (List α)}{k:IntKind}{i:Int}{x:α}(hx:qr (l.getD []) i=I x):kF z h (I (sl z f l)) (I (.int k i))=I ⟨.ah (f x),Gn,Ey,h⟩:=by
 unfold qr at hx
 by_cases hi:0≤i
 ·rw[if_pos hi]at hx
  obtain⟨n,rfl⟩:∃n:Nat,i=(n:Int):=⟨i.toNat,by omega⟩
  exact jvu (by simpa using hx)
 ·rw[if_neg hi]at hx;cases hx
theorem jjs {s:List UInt8}{k:IntKind}{i:Int}{c:UInt8}(hx:qr s i=I c):BX h (I (.str s)) (I (.int k i))=I ⟨.int .u8 (c.toNat:Int),Gn,Ey,h⟩:=by
 unfold qr at hx
 by_cases hi:0≤i
 ·rw[if_pos hi]at hx
  obtain⟨n,rfl⟩:∃n:Nat,i=(n:Int):=⟨i.toNat,by omega⟩
  exact jei (by simpa using hx)
 ·rw[if_neg hi]at hx;cases hx
end
section
variable {h:qh}
end
section
variable {p:zb}{xc:XC}{h0:Nat}{al:Option (List Nat)}{e:Env}{h:qh}
def j75 (k:IntKind)(h:qh)(x:Option AVal):Option bj:=match x with
 |some (.int _ n)=>val h (.int k (qe k n))
 |_=>Ey
@[go_sem] theorem za6 {k k':IntKind}{n:Int}:j75 k h (I (.int k' n))=I ⟨.int k (qe k n),Gn,Ey,h⟩:=rfl
def q3c (h:qh)(x:Option AVal):Option bj:=match x with
 |some (.str s)=>val h (.str s)
 |some (.int _ n)=>val h (.str (Utf8.encode n).data.toList)
 |_=>Ey
@[go_sem] theorem jzb {k:IntKind}{n:Int}:q3c h (I (.int k n))=I ⟨.str (Utf8.encode n).data.toList,Gn,Ey,h⟩:=rfl
@[go_sem] theorem jxp {s:List UInt8}:q3c h (I (.str s))=I ⟨.str s,Gn,Ey,h⟩:=rfl
def JM (h:qh)(x:Option AVal):Option bj:=match x with
 |some (.ptr b o)=>val h (.ptr b o)
 |some (.ah v)=>val h (.ah v)
 |some (.fn (.func f) a b)=>val h (.fn (.func f) a b)
 |_=>Ey
@[go_sem] theorem juf {b o:Nat}:JM h (I (.ptr b o))=I ⟨.ptr b o,Gn,Ey,h⟩:=rfl
@[go_sem] theorem jsk {v:AVal}:JM h (I (.ah v))=I ⟨.ah v,Gn,Ey,h⟩:=rfl
@[go_sem] theorem jzr {f:Nat}{a b:List AVal}:JM h (I (.fn (.func f) a b))=I ⟨.fn (.func f) a b,Gn,Ey,h⟩:=rfl
@[go_sem] theorem j7m {x:jx}:qf p xc h0 al e h (.nilCheck x)=JM h (qi e x):=by
 simp only[qf,qo,JM];rfl
def Yq (agg:Bool)(off n:Nat)(h:qh)(x:Option AVal):Option bj:=match x with
 |some (.agg cs)=>gK h (Go.Abs.part agg cs off n)
 |_=>Ey
@[go_sem] theorem j2a {agg:Bool}{off n:Nat}{cs:List AVal}:Yq agg off n h (I (.agg cs))=gK h (Go.Abs.part agg cs off n):=rfl
@[go_sem] theorem zmo {agg:Bool}{off n:Nat}{x:jx}:qf p xc h0 al e h (.field agg off n x)=Yq agg off n h (qi e x):=by
 simp only[qf,qo,Yq]
 cases qi e x with
 |none=>rfl
 |some v=>cases v<;>rfl
def zm8 (agg:Bool)(len n:Nat)(h:qh)(x i:Option AVal):Option bj:=match x,i with
 |some (.agg cs),I j=>(match idx len j with
  |some j=>gK h (Go.Abs.part agg cs (j*n) n)
  |none=>Ey)
 |_,_=>Ey
end
section
variable {p:zb}{xc:XC}{h0:Nat}{al:Option (List Nat)}{e:Env}{h:qh}{α:Type}
def sw (n lJ:Nat):Option Int→Option Nat
 |none=>I lJ
 |some i=>if 0≤i∧i≤n then I i.toNat else Ey
def NK (s:List α)(lo hi:Option Int):Option (List α):=match sw s.length s.length hi with
 |some j=>(match sw j 0 lo with
  |some i=>I ((s.take j).drop i)
  |none=>Ey)
 |none=>Ey
def vQ (o:Option (List α))(lo hi:Option Int):Option (Option (List α)):=match NK (o.getD []) lo hi with
 |some l=>I (o.map fun _=>l)
 |none=>Ey
def sB (lJ n:Nat):Option (Option AVal)→Option Nat
 |none=>I lJ
 |some (I v)=>A0 n v
 |some Ey=>Ey
theorem j4u {lJ n:Nat}{x:Option jx}:fL e lJ n x=sB lJ n (x.map (qi e)):=by
 cases x with
 |none=>rfl
 |some x=>simp only[fL,G7,sB];cases qi e x<;>rfl
theorem jpx {n d:Nat}{k:IntKind}{i:Int}:A0 n (.int k i)=sw n d (I i):=by
 unfold A0 sw
 cases i with
 |ofNat m=>
  simp only[]
  by_cases hm:m≤n
  ·rw[if_pos ⟨by simp,by simpa using hm⟩,Nat.ble_eq_true_of_le hm];rfl
  ·rw[if_neg (by simp;omega)]
   cases hb:G0 m n with
   |true=>exact absurd (Nat.le_of_ble_eq_true hb) hm
   |false=>rfl
 |negSucc m=>simp
def Yr (k:IntKind):Option Int→Option (Option AVal)
 |none=>Ey
 |some i=>I (I (.int k i))
theorem jg1 {d n:Nat}{k:IntKind}{x:Option Int}:sB d n (Yr k x)=sw n d x:=by
 cases x with
 |none=>rfl
 |some i=>exact jpx
def rU (sz:Nat)(h:qh)(x:Option AVal)(lo hi:Option (Option AVal)):Option bj:=match x with
 |some (.list n dq xs)=>bif Gt sz dq||xs.isEmpty then(match sB xs.length xs.length hi with
  |some j=>(match sB 0 j lo with
   |some i=>val h (.list n dq ((xs.take j).drop i))
   |none=>Ey)
  |none=>Ey)else Ey
 |some (.ms b o len)=>(match sB len len hi with
  |some j=>(match sB 0 j lo with
   |some i=>bif Gt i 0||Nat.blt i j then val h (.ms b (o+i*sz) (j-i))else Ey
   |none=>Ey)
  |none=>Ey)
 |some (.aw b bG len)=>(match sB len len hi with
  |some j=>(match sB 0 j lo with
   |some i=>bif Gt i 0 then val h (.aw b bG j)else Ey
   |none=>Ey)
  |none=>Ey)
 |_=>Ey
attribute [go_sem] Option.map_some Option.map_none
@[go_sem] theorem zmt {sz:Nat}{x:jx}{lo hi:Option jx}:qf p xc h0 al e h (.slice sz x lo hi)=rU sz h (qi e x) (lo.map (qi e)) (hi.map (qi e)):=by
 simp only[qf,qo,rU,j4u]
 cases qi e x with
 |none=>rfl
 |some v=>cases v<;>rfl
theorem j7g {z:Nat}{k k':IntKind}{f:α→AVal}{o v:Option (List α)}{lo hi:Option Int}(hv:vQ o lo hi=I v):rU z h (I (sl z f o)) (Yr k lo) (Yr k' hi)=I ⟨sl z f v,Gn,Ey,h⟩:=by
 unfold vQ NK at hv
 cases o with
 |none=>
  simp only[sl,rU,G2,Gy,cond_true,jg1]
  simp only[G5]at hv
  cases h1:sw ([]:List α).length ([]:List α).length hi with
  |none=>rw[h1]at hv;cases hv
  |some j=>
   rw[h1]at hv
   simp only[]at hv
   cases h2:sw j 0 lo with
   |none=>rw[h2]at hv;cases hv
   |some i=>
    rw[h2]at hv
    cases hv
    simp only[Gs]at h1
    simp only[Gs,h1,h2,List.take_nil,List.drop_nil]
    rfl
 |some l=>
  simp only[sl,rU,MU,decide_true,G1,cond_true,jg1,Gz]
  simp only[G6]at hv
  cases h1:sw l.length l.length hi with
  |none=>rw[h1]at hv;cases hv
  |some j=>
   rw[h1]at hv
   simp only[]at hv
   cases h2:sw j 0 lo with
   |none=>rw[h2]at hv;cases hv
   |some i=>
    rw[h2]at hv
    cases hv
    simp only[h2,val,G7,List.map_drop,List.map_take]
theorem jpv {z:Nat}{k:IntKind}{f:α→AVal}{o v:Option (List α)}{hi:Int}(hv:vQ o Ey (I hi)=I v):rU z h (I (sl z f o)) Ey (I (I (.int k hi)))=I ⟨sl z f v,Gn,Ey,h⟩:=j7g (k:=k) hv
end
section
variable {h:qh}{α:Type}
def Fm (o:Option (List α))(ys:List α):Option (List α):=match o,ys with
 |none,[]=>Ey
 |o,ys=>I (o.getD []++ys)
def bH (o:Option (List α))(ys:List α):Option (Option (List α)):=if(o.getD []).length+ys.length≤1073741824 then I (Fm o ys)else Ey
theorem Ys {z b:Nat}{own:Option Nat}{f:α→AVal}{o:Option (List α)}{ys:List α}{v:Option (List α)}{y:AVal}(hz:0<z)(hb:b≤4096)(hy:z7 z y=I (ys.map f))(hv:bH o ys=I v)
  (ho:o=Ey∨own.isSome=Gp):bM z b h own (I (sl z f o)) (I y)=I ⟨sl z f v,Gp,own,h⟩:=by
 unfold bH at hv
 by_cases hl:(o.getD []).length+ys.length≤1073741824
 ·rw[if_pos hl]at hv;cases hv
  cases o with
  |none=>
   simp only[sl,bM,bM.iE,hy,cr,G1,G2,G9,Gy,Gs,Gz,nK,vK,hz,hb,decide_true]
   simp only[G5,Gs]at hl
   simp only[hl,decide_true,Ha,Gy]
   cases ys with
   |nil=>rfl
   |cons y ys=>simp[qN,Fm,sl]
  |some l=>
   have zA:own.isSome=Gp:=by rcases ho with h|h;cases h;exact h
   simp only[sl,bM,bM.iE,hy,cr,zA,Gy,MU,nK,vK,hz,hb,decide_true,G1,Gz]
   simp only[G6]at hl
   simp only[hl,decide_true,Ha]
   simp[qN,Fm,sl]
 ·rw[if_neg hl]at hv;cases hv
theorem jl1 {z b t:Nat}{f:α→AVal}{o o2 v:Option (List α)}(hv:bH o (o2.getD [])=I v):bM (z+1) b h (I t) (I (sl (z+1) f o)) (I (sl (z+1) f o2))=cr (decide (b≤4096)) (I ⟨sl (z+1) f v,Gp,I t,h⟩):=by
 by_cases hb:b≤4096
 ·rw[Ys (by omega) hb W8 hv (.inr rfl)];simp[cr,hb]
 ·have fN:decide (b≤4096)=Gn:=by simp[hb]
  rw[fN]
  cases o with
  |none=>simp[sl,bM,bM.iE,cr,hb,nK];split<;>rfl
  |some l=>simp[sl,bM,bM.iE,cr,hb,nK];split<;>rfl
theorem vO {z b t:Nat}{f:α→AVal}{x:α}{y:AVal}{o v:Option (List α)}(hz:0<z)(hy:z7 z y=I [f x])(hv:bH o [x]=I v):bM z b h (I t) (I (sl z f o)) (I y)=cr (decide (b≤4096)) (I ⟨sl z f v,Gp,I t,h⟩):=by
 by_cases hb:b≤4096
 ·rw[Ys hz hb hy hv (.inr rfl)];simp[cr,hb]
 ·have fN:decide (b≤4096)=Gn:=by simp[hb]
  rw[fN]
  cases o with
  |none=>simp[sl,bM,bM.iE,cr,hb,hy,nK]
  |some l=>simp[sl,bM,bM.iE,cr,hb,hy,nK]
theorem jhb {z b t:Nat}{f:α→AVal}{o2 v:Option (List α)}(hv:bH (I []) (o2.getD [])=I v):bM (z+1) b h (I t) (I (.list Gn (z+1) [])) (I (sl (z+1) f o2))=cr (decide (b≤4096)) (I ⟨sl (z+1) f v,Gp,I t,h⟩):=
 jl1 (o:=I []) hv
end
def j9 (s:List UInt8):AVal:=.str s
@[go_sem] theorem j77 {h0:Nat}{al:Option (List Nat)}{h:qh}{b:List UInt8}:gC h0 al Gn 1 h (I (.ah (j9 b)))=I ⟨.str b,Gn,Ey,h⟩:=rfl
@[go_sem] theorem j7t {n z:Nat}{l:Option (List (List UInt8))}:below n (sl z j9 l)=Gp:=vJ fun _=>rfl
theorem jdo {b t:Nat}{h:qh}{bb:Bool}{x:Int}{o v:Option (List Int)}(hv:bH o [x]=I v):bM 1 b h (I t) (I (sl 1 jm o)) (I (.list bb 1 [.int .i64 x]))=cr (decide (b≤4096)) (I ⟨sl 1 jm v,Gp,I t,h⟩):=vO (by omega) rfl hv
theorem jcv {b t:Nat}{h:qh}{bb:Bool}{x:List UInt8}{o v:Option (List (List UInt8))}(hv:bH o [x]=I v):bM 1 b h (I t) (I (sl 1 j9 o)) (I (.list bb 1 [.str x]))=cr (decide (b≤4096)) (I ⟨sl 1 j9 v,Gp,I t,h⟩):=vO (by omega) rfl hv
theorem qzu {p:zb}{xc:XC}{k:Nat}{args:List AVal}{v v':AVal}{o:Bool}{h:qh}(hp:p.cO k=Ey)(hc:qm p xc k args []=I (v,o,h))(hz:aF h v=I v')(hv:below 0 v'=Gp)(hl:v.cS=Gp):qc p xc k args=I (v',o):=by
 rw[yd hp hc hz hv,hl,G9]
section
variable {p:zb}{xc:XC}{h0:Nat}{al:Option (List Nat)}{e:Env}{h:qh}{α:Type}
def wk (h0 r sz bytes:Nat)(zero:List AVal)(h:qh)(n c:Option AVal):Option bj:=match n,c with
 |some (.int .i64 (.ofNat n)),I (.int .i64 (.ofNat c))=>
  bif Gt n c&&G0 n 1073741824&&G0 bytes 4096&&Gt zero.length sz&&Nat.blt 0 sz&&zero.all qk then
   (match aJ h0 h r (.cells (cellsOf (List.replicate n zero).flatten))with
    |some h'=>val h' (.ms (h0+r) 0 n)
    |none=>Ey)else Ey
 |_,_=>Ey
@[go_sem] theorem zl8 {r sz b:Nat}{z:List AVal}{n c:jx}:qf p xc h0 al e h (.cx (I r) sz b z n c)=wk h0 r sz b z h (qi e n) (qi e c):=by
 simp only[qf,qp,wk]
 rfl
def CA (h0 r sz bytes:Nat)(h:qh)(own:Option Nat)(x y:Option AVal):Option bj:=match x,y with
 |some (.list Gn dq []),I vy=>
  bif own.isSome&&Gt sz dq then
   (match z7 sz vy with
    |some ys=>
     bif G0 ys.length 1073741824&&G0 bytes 4096&&Nat.blt 0 sz then
      (match aJ h0 h r (.cells (cellsOf (ys.flatMap AVal.flat)))with
       |some h'=>I ⟨.ms (h0+r) 0 ys.length,Gn,own,h'⟩
       |none=>Ey)
     else Ey
    |none=>Ey)
  else Ey
 |_,_=>Ey
@[go_sem] theorem zaj {r sz b:Nat}{x y:jx}:qf p xc h0 al e h (.append (I r) sz b x y)=CA h0 r sz b h (zu e x) (qi e x) (qi e y):=by
 simp only[qf,qp,CA]
 rfl
def jxs (own:Option Nat)(v:AVal)(r:Option qh):Option bj:=match r with
 |some h'=>I ⟨v,Gn,own,h'⟩
 |none=>Ey
@[go_sem] theorem j0c {own:Option Nat}{v:AVal}:jxs own v (I h)=I ⟨v,Gn,own,h⟩:=rfl
def NR (c:Option (List (AVal×Bool)))(off len:Nat):Option AVal:=match c with
 |some cs=>bif Er off len cs then I (.list Gn (cs.length / len) (mH (cs.length / len) len (cs.map (·.1))))else(match zn cs off len with
  |some vs=>I (.list Gn 1 vs)
  |none=>Ey)
 |none=>Ey
@[go_sem] theorem FI {b o n:Nat}:aF h (.ms b o n)=NR (jy h b) o n:=by
 simp only[aF,kx,NR];rfl
@[go_sem] theorem j85 {z:Nat}{f:α→AVal}{o:Option (List α)}:Xe 0 Gn h (I (sl z f o))=I ⟨.bool o.isNone,Gn,Ey,h⟩:=by cases o<;>rfl
theorem vP {z b:Nat}{f:α→AVal}{x:α}{y:AVal}{o v:Option (List α)}(hz:0<z)(hy:z7 z y=I [f x])(hn:o.isNone=Gp)(hv:bH o [x]=I v):bM z b h Ey (I (sl z f o)) (I y)=cr (decide (b≤4096)) (I ⟨sl z f v,Gp,Ey,h⟩):=by
 cases o with
 |some l=>cases hn
 |none=>
  by_cases hb:b≤4096
  ·rw[Ys hz hb hy hv (.inl rfl)];simp[cr,hb]
  ·have fN:decide (b≤4096)=Gn:=by simp[hb]
   rw[fN]
   simp[sl,bM,bM.iE,cr,hb,hy,nK]
theorem jde {b:Nat}{bb:Bool}{x:Int}{o v:Option (List Int)}(hv:bH o [x]=I v)(hn:o.isNone=Gp):bM 1 b h Ey (I (sl 1 jm o)) (I (.list bb 1 [.int .i64 x]))=cr (decide (b≤4096)) (I ⟨sl 1 jm v,Gp,Ey,h⟩):=vP (by omega) rfl hn hv
attribute [go_sem] Nat.le_refl
end
@[go_sem] theorem znz {h:qh}{a b c d:Int}:Xu [.int,.int] Gp h (I (.agg [.int .i64 a,.int .i64 b])) (I (.agg [.int .i64 c,.int .i64 d]))=I ⟨.bool (!(decide (a=c)&&decide (b=d))),Gn,Ey,h⟩:=by
 show(match y6 [.int,.int] [.int .i64 a,.int .i64 b] [.int .i64 c,.int .i64 d]with|some t=>val h (.bool (bif Gp then !t else t))|none=>Ey)=_
 have:y6 [.int,.int] [.int .i64 a,.int .i64 b] [.int .i64 c,.int .i64 d]=I (decide (a=c)&&decide (b=d)):=by
  have e:∀x y:Int,(x == y)=decide (x=y):=fun x y=>by by_cases h:x=y<;>simp[h]
  simp only[y6,ni,e,decide_true,cond_true]
  by_cases h1:a=c<;>by_cases h2:b=d<;>simp[h1,h2]
 rw[this]
 rfl
section
variable {p:zb}{xc:XC}{h0:Nat}{al:Option (List Nat)}{e:Env}{h:qh}
end
noncomputable def mF (p:zb)(more:yI)(op:Nat→Bool):zb:={ bQ:=p.bQ,dP:=p.dP,maps:=p.maps,cO:=fun k=>bif op k then Ey else match more k with
 |some f=>I f
 |none=>bif (p.bQ k).isSome||(p.cO k).isSome||(p.dP k).isSome then I fun args=>qc p (X p) k args else Ey }
theorem q1g {p:zb}{xc:XC}{k:Nat}{args:List AVal}{r:AVal×Bool}(h:qc p xc k args=I r):((p.bQ k).isSome||(p.cO k).isSome||(p.dP k).isSome)=Gp:=by
 unfold qc at h
 split at h
 ·rename_i f hf;simp[hf]
 ·split at h
  ·rename_i hc
   unfold qm at hc
   split at hc
   ·rename_i f hf;simp[hf]
   ·split at hc
    ·rename_i f hf;simp[hf]
    ·cases hc
  ·cases h
theorem jc2 {p:zb}{more:yI}{op:Nat→Bool}{k:Nat}(ho:op k=Gn)(hm:more k=Ey){xc:XC}{args:List AVal}{v:AVal}{o:Bool}(h:qc p (X p) k args=I (v,o))(hv:mG v=Gp):qc (mF p more op) xc k args=I (v,o):=by
 have hk:=q1g h
 unfold qc
 have:(mF p more op).cO k=I fun args=>qc p (X p) k args:=by simp only[mF,ho,cond_false,hm,hk,cond_true]
 rw[this]
 simp only[h,hv,cond_true]
theorem jc1 {p:zb}{more:yI}{op:Nat→Bool}{k:Nat}{f:List AVal→Option (AVal×Bool)}(ho:op k=Gn)(hm:more k=I f){xc:XC}{args:List AVal}{v:AVal}{o:Bool}(h:f args=I (v,o))(hv:mG v=Gp):qc (mF p more op) xc k args=I (v,o):=by
 unfold qc
 have:(mF p more op).cO k=I f:=by simp only[mF,ho,cond_false,hm]
 rw[this]
 simp only[h,hv,cond_true]
theorem jhe {P:Program}{p:zb}{more:yI}{op:Nat→Bool}(hp:bX P p)(hm:∀k f,more k=I f→Enters P k∧∀args v o,f args=I (v,o)→mG v=Gp→qx 0 args=Gp→IsoCall P k args v o):bX P (mF p more op) where
 fn:=hp.fn
 maps:=hp.maps
 iM:=by
  intro k f hf
  cases ho:op k with
  |true=>
   have:(mF p more op).cO k=Ey:=by simp only[mF,ho,cond_true]
   rw[this]at hf;cases hf
  |false=>
  cases zH:more k with
  |some g=>
   have:(mF p more op).cO k=I g:=by simp only[mF,ho,cond_false,zH]
   rw[this]at hf
   cases hf
   exact hm k _ zH
  |none=>
   cases hk:((p.bQ k).isSome||(p.cO k).isSome||(p.dP k).isSome)with
   |false=>
    have:(mF p more op).cO k=Ey:=by simp only[mF,ho,zH,hk,cond_false]
    rw[this]at hf;cases hf
   |true=>
    have:(mF p more op).cO k=I fun args=>qc p (X p) k args:=by simp only[mF,ho,cond_false,zH,hk,cond_true]
    rw[this]at hf
    cases hf
    refine⟨?_,fun args v o h _ hb=>quc hp h hb⟩
    simp only[Bool.or_eq_true]at hk
    rcases hk with(h|h)|h
    ·obtain⟨af,ha⟩:=Gq.1 h
     exact hp.enters ha
    ·obtain⟨g,hg⟩:=Gq.1 h
     exact(hp.iM k g hg).1
    ·obtain⟨g,hg⟩:=Gq.1 h
     exact(hp.gh k g hg).1
 mixed:=hp.mixed
 gh:=hp.gh
theorem yh {i:Nat}(h:i<9223372036854775807):qe .i64 ((i:Int)+1)=((i+1:Nat):Int):=by
 rw[MS (by omega) (by omega)];rfl
variable {h:qh}
theorem jt6 {b pos:Nat}{s:List UInt8}(hp:decide (pos<s.length)=Gp):vM h b (I (.iter s pos))=fO (jt h b (.iter s (pos+(ql s pos).2))) (.aB [.bool Gp,.int .i64 pos,.int .i32 (ql s pos).1]):=jk4 (of_decide_eq_true hp)
theorem jsz {b pos:Nat}{s:List UInt8}(hp:decide (pos<s.length)=Gn):vM h b (I (.iter s pos))=I ⟨.aB [.bool Gn],Gn,Ey,h⟩:=jgr (of_decide_eq_false hp)
end Go.Z
