/- What the line's functions compute, and the small functions of the checks. -/
import Derived.Test.YtimdocpnkimlfaaGreatDoorZC
import Derived.Test.YtimdocpnkimlfaaGreatDoorAbsL
set_option linter.unusedVariables false
set_option linter.unusedSimpArgs false
set_option maxRecDepth 100000
open Option renaming some→I,none→Ea,isSome_iff_exists→En,getD_none→Hy,getD_some→Hz,map_some→H2
open Bool renaming false→Eb,true→Ec,or_true→Ga,true_or→Hb,and_true→Ib,and_self→If
open List renaming getElem?_eq_some_iff→Ek,length_nil→E3,length_map→Gc,isEmpty_nil→Hu
open Nat renaming beq→Ha
namespace Go.Z
open Go Go.Abs
theorem BD {α:Type}{l:List α}{i:Nat}{x:α}(hx:l[i]?=I x):l.drop i=x::l.drop (i+1):=by
 obtain⟨h1,h2⟩:=Ek.1 hx
 rw[List.drop_eq_getElem_cons h1,h2]
theorem q69 {i:Nat}{n:Nat}(h:i<n)(hn:n≤9223372036854775807):qh .i64 ((i:Int)+1)=((i+1:Nat):Int):=by
 rw[PK (by omega) (by omega)];rfl
structure E4 where
 jN:List UInt8
 values:Option (List Int)
def E5 (u:E4):AVal:=.agg [.str u.jN,sl 1 qx u.values]
@[go_sem] theorem jqq {u:E4}:(E5 u).flat=[.str u.jN,sl 1 qx u.values]:=rfl
theorem q0i {n:Nat}(u:E4):below n (E5 u)=Ec:=by simp only[E5,go_sem]
attribute [go_sem] q0i
def acc {α:Type}(z:Nat)(f:α→AVal)(l:List α):AVal:=match l with
 | []=>.list Ec 0 []
 |a::l=>.list Eb z ((a::l).map f)
def nq {α:Type}(l:List α):Bool:=!l.isEmpty
def yh {α:Type}(l:List α):Option (List α):=match l with
 | []=>Ea
 |a::l=>I (a::l)
@[go_sem] theorem j3w {α:Type}{z:Nat}{f:α→AVal}:acc z f []=.list Ec 0 []:=rfl
@[go_sem] theorem jw6 {α:Type}:nq (α:=α) []=Eb:=rfl
theorem q5r {α:Type}(l:List α)(x:α):nq (l++[x])=Ec:=by cases l<;>rfl
@[go_sem] theorem jhs {n:Nat}:oj n []=Ec:=rfl
@[go_sem] theorem jfq {n t:Nat}{v:AVal}{o:Bool}{e:Env}:oj n ((t,v,o)::e)=(below n v&&oj n e):=rfl
@[go_sem] theorem jmh {h0:Nat}{al:Option (List Nat)}{h:ql}{u:E4}:y8 h0 al Ec 2 h (I (.ax (E5 u)))=I ⟨.agg [.str u.jN,sl 1 qx u.values],Eb,Ea,h⟩:=rfl
def nu (i:Nat)(x:Int):Bool:=decide (65≤x∧x≤90)||decide (97≤x∧x≤122)||(decide (i≠0)&&(decide (48≤x∧x≤57)||decide (x=95)))
theorem kinds (x:Int):x≤47∨(48≤x∧x≤57)∨(58≤x∧x≤64)∨(65≤x∧x≤90)∨(91≤x∧x≤94)∨x=95∨x=96∨(97≤x∧x≤122)∨123≤x:=by omega
def rm (i:Nat):List UInt8→Bool
 | []=>Ec
 |c::s=>nu i c.toNat&&rm (i+1) s
def b9 (s:List UInt8):Bool:=decide (s≠[])&&decide (s.length≤24)&&rm 0 s
@[go_sem] theorem jc1 {v:AVal}:ko 0 v []=[]:=rfl
@[go_sem] theorem jbb {h:ql}{u:E4}:Bz Eb 0 1 h (I (.ax (E5 u)))=I ⟨.ax (.str u.jN),Eb,Ea,h⟩:=rfl
@[go_sem] theorem j4c {n:Nat}{v:AVal}{h:ql}:ko n v h=bif Nat.ble h.length n then h else bif below n v&&yk n (h.take n)then h.take n else h:=rfl
@[go_sem] theorem jfr {n:Nat}:yk n []=Ec:=rfl
@[go_sem] theorem jeb {n:Nat}{b:aJ}{h:ql}:yk n (b::h)=(AU n b&&yk n h):=rfl
@[go_sem] theorem jen {n:Nat}{cs:List (AVal×Bool)}:AU n (.cells cs)=s9 n cs:=rfl
@[go_sem] theorem je3 {n:Nat}:s9 n []=Ec:=rfl
@[go_sem] theorem jc7 {n:Nat}{v:AVal}{o:Bool}{cs:List (AVal×Bool)}:s9 n ((v,o)::cs)=(below n v&&s9 n cs):=rfl
def jrh (h0:Nat)(al:Option (List Nat))(sz:Nat)(h:ql)(x y:Option AVal):Option aK:=match x,y with
  |some (.ms b o len),I vy=>bif jm h0 al b then(match ji h b with
   |some cs=>(match Hc sz len vy with
    |some (n,vs)=>(match z7 cs o vs with
     |some dV=>bif Ha vs.length (n*sz)then(match jh h b (.cells dV)with
      |some h'=>val h' (.int .i64 n)
      |none=>Ea)else Ea
     |none=>Ea)
    |none=>Ea)
   |none=>Ea)else Ea
  |_,_=>Ea
@[go_sem] theorem j4p {p:jg}{xc:XC}{h0:Nat}{al:Option (List Nat)}{e:Env}{h:ql}{sz:Nat}{x y:jd}:qb p xc h0 al e h (.copy sz x y)=jrh h0 al sz h (qg e x) (qg e y):=rfl
@[go_sem] theorem j5a {k:IntKind}{x:Int}:s7 .neg (.int k x)=I (.int k (qh k (0-x))):=rfl
def jf8 (ks:List Kd)(neq:Bool)(h:ql)(x y:Option AVal):Option aK:=match x,y with
  |some (.agg a),I (.agg b)=>bif Ha a.length ks.length&&Ha b.length ks.length then(match yd ks a b with
   |some t=>val h (.bool (bif neq then !t else t))
   |none=>Ea)else Ea
  |_,_=>Ea
@[go_sem] theorem j45 {p:jg}{xc:XC}{h0:Nat}{al:Option (List Nat)}{e:Env}{h:ql}{ks:List Kd}{neq:Bool}{x y:jd}:qb p xc h0 al e h (.eqs ks neq x y)=jf8 ks neq h (qg e x) (qg e y):=rfl
def conv (f g:Nat→Nat):Nat→Nat
 |0=>f 0*g 0
 |s+1=>f 0*g (s+1)+conv (fun k=>f (k+1)) g s
def jpt (b:Bool):AVal:=.bool b
@[go_sem] theorem jl7 {h0:Nat}{al:Option (List Nat)}{h:ql}{b:Bool}:y8 h0 al Eb 1 h (I (.ax (jpt b)))=I ⟨.bool b,Eb,Ea,h⟩:=rfl
def qe {α β:Type}(x:Option α)(f:α→Option β):Option β:=match x with
 |some a=>f a
 |none=>Ea
@[simp] theorem qi {α β:Type}{a:α}{f:α→Option β}:qe (I a) f=f a:=rfl
@[simp] theorem jxi {α β:Type}{f:α→Option β}:qe Ea f=Ea:=rfl
theorem qa {α β:Type}{x:Option α}{f:α→Option β}{r:β}(h:qe x f=I r):∃a,x=I a∧f a=I r:=by
 cases x with
 |none=>cases h
 |some a=>exact⟨a,rfl,h⟩
theorem qc {α:Type}{c:Bool}{a b r:α}(h:cond c a b=r):(c=Ec∧a=r)∨(c=Eb∧b=r):=by
 cases c
 ·exact .inr ⟨rfl,h⟩
 ·exact .inl ⟨rfl,h⟩
def mM {σ δ:Type}(f:σ→Option (σ⊕δ)):Nat→σ→Option δ
 |0,_=>Ea
 |n+1,s=>match f s with
  |none=>Ea
  |some (.inl s')=>mM f n s'
  |some (.inr d)=>I d
theorem qyh {σ δ:Type}{f:σ→Option (σ⊕δ)}{d:δ}:∀ {n:Nat} {s:σ},mM f n s=I d→mM f (n+1) s=I d
 |0,_,h=>by cases h
 |n+1,s,h=>by
  rw[mM]at h ⊢
  cases hf:f s with
  |none=>rw[hf]at h;cases h
  |some x=>
   rw[hf]at h
   cases x with
   |inl s'=>exact qyh h
   |inr d'=>exact h
theorem q43 {σ δ:Type}{f:σ→Option (σ⊕δ)}{d:δ}{n m:Nat}{s:σ}(hm:n≤m)(h:mM f n s=I d):mM f m s=I d:=by
 induction hm with
 |refl=>exact h
 |step _ ih=>exact qyh ih
open Classical in
noncomputable def bq {σ δ:Type}(f:σ→Option (σ⊕δ))(s:σ):Option δ:=
 if h:∃d n,mM f n s=I d then I (Classical.choose h)else Ea
theorem IU {σ δ:Type}{f:σ→Option (σ⊕δ)}{s:σ}{d:δ}:bq f s=I d↔∃n,mM f n s=I d:=by
 unfold bq
 constructor
 ·intro h
  split at h
  ·rename_i hh;cases h;exact Classical.choose_spec hh
  ·cases h
 ·rintro ⟨n,hn⟩
  have hh:∃d n,mM f n s=I d:=⟨d,n,hn⟩
  rw[dif_pos hh]
  obtain⟨m,hm⟩:=Classical.choose_spec hh
  have h1:=q43 (Nat.le_max_left n m) hn
  have h2:=q43 (Nat.le_max_right n m) hm
  rw[h1]at h2
  exact h2.symm
theorem z6 {σ δ:Type}{f:σ→Option (σ⊕δ)}{s s':σ}(h:f s=I (.inl s')):bq f s=bq f s':=by
 apply Option.ext
 intro d
 rw[IU,IU]
 constructor
 ·rintro ⟨n,hn⟩
  cases n with
  |zero=>cases hn
  |succ n=>rw[mM,h]at hn;exact⟨n,hn⟩
 ·rintro ⟨n,hn⟩
  exact⟨n+1,by rw[mM,h];exact hn⟩
theorem jq {σ δ:Type}{f:σ→Option (σ⊕δ)}{s:σ}{d:δ}(h:f s=I (.inr d)):bq f s=I d:=
 IU.2 ⟨1,by rw[mM,h]⟩
theorem QA {α ε:Type}(l:List α)(f:Int→Option (Int⊕(ε⊕Int)))(P:Nat→α→Prop)
  (dm:f (l.length:Int)=I (.inr (.inr (l.length:Int))))
  (dr:∀(i:Nat) (x:α),l[i]?=I x→(f (i:Int)=I (.inl ((i+1:Nat):Int))∧P i x)∨∃e,f (i:Int)=I (.inr (.inl e))):
  (∃e,bq f 0=I (.inl e))∨(bq f 0=I (.inr (l.length:Int))∧∀(i:Nat) (x:α),l[i]?=I x→P i x):=by
 have key:∀(k i:Nat),i+k=l.length→(∀(j:Nat) (x:α),j<i→l[j]?=I x→P j x) →
   (∃e,bq f (i:Int)=I (.inl e))∨(bq f (i:Int)=I (.inr (l.length:Int))∧∀(i:Nat) (x:α),l[i]?=I x→P i x):=by
  intro k
  induction k with
  |zero=>
   intro i hi hp
   have:i=l.length:=by omega
   subst this
   exact .inr ⟨jq dm,fun j x hx=>hp j x (Ek.1 hx).1 hx⟩
  |succ k ih=>
   intro i hi hp
   obtain⟨x,hx⟩:∃x,l[i]?=I x:=⟨_,List.getElem?_eq_getElem (by omega)⟩
   rcases dr i x hx with⟨h1,h2⟩|⟨e,h1⟩
   ·rw[z6 h1]
    refine ih (i+1) (by omega) fun j y hj hy=>?_
    by_cases nJ:j=i
    ·subst nJ;rw[hx]at hy;cases hy;exact h2
    ·exact hp j y (by omega) hy
   ·exact .inl ⟨e,jq h1⟩
 exact key l.length 0 (by omega) fun j x hj=>absurd hj (by omega)
theorem q8t {ε:Type}(n:Nat)(f:Int→Option (Int⊕(ε⊕Int)))(dm:f (n:Int)=I (.inr (.inr (n:Int))))(dr:∀i:Nat,i<n→f (i:Int)=I (.inl ((i+1:Nat):Int))):bq f 0=I (.inr (n:Int)):=by
 have hl:(List.range n).length=n:=List.length_range
 rcases QA (List.range n) f (fun _ _=>True) (by rw[hl];exact dm) (fun i x hx=>.inl ⟨dr i (by have:=(Ek.1 hx).1;omega),trivial⟩)with⟨e,he⟩|⟨h,_⟩
 ·exfalso
  have key:∀(k i:Nat),i+k=n→bq f (i:Int)=I (.inr (n:Int)):=by
   intro k
   induction k with
   |zero=>
    intro i hi
    have:i=n:=by omega
    subst this
    exact jq dm
   |succ k ih=>intro i hi;rw[z6 (dr i (by omega))];exact ih (i+1) (by omega)
  have:=key n 0 (by omega)
  rw[Int.natCast_zero,he]at this
  cases this
 ·rw[h,hl]
def zd {σ δ:Type}(p:jg)(c:au)(St:σ→aV)(Ex:δ→je×aV)(s:σ)(r:σ⊕δ):Prop:=match r with
 | .inl s'=>∃aN,X p c (St s)=I (.normal,aN)∧gc (St s).heap.length aN=St s'
 | .inr d=>X p c (St s)=I (Ex d)
theorem jp {σ δ:Type}{p:jg}{c:au}{St:σ→aV}{Ex:δ→je×aV}{s s':σ}{aN:aV}(hx:X p c (St s)=I (.normal,aN))(hc:gc (St s).heap.length aN=St s'):zd p c St Ex s (.inl s'):=⟨aN,hx,hc⟩
theorem qy {σ δ:Type}{p:jg}{c:au}{St:σ→aV}{Ex:δ→je×aV}{s:σ}{d:δ}(hx:X p c (St s)=I (Ex d)):zd p c St Ex s (.inr d):=hx
theorem jcd {σ δ:Type}{p:jg}{c:au}{St:σ→aV}{Ex:δ→je×aV}{f:σ→Option (σ⊕δ)}(hb:∀s r,f s=I r→zd p c St Ex s r)(hX:∀d,(Ex d).1≠.normal){d:δ}:
  ∀ {n:Nat} {s:σ},mM f n s=I d→X p (.loop c) (St s)=I (Ex d)
 |0,_,h=>by cases h
 |n+1,s,h=>by
  rw[mM]at h
  rw[jek]
  cases hf:f s with
  |none=>rw[hf]at h;cases h
  |some x=>
   rw[hf]at h
   have hs:=hb s x hf
   cases x with
   |inl s'=>
    obtain⟨aN,h1,h2⟩:=hs
    rw[h1,qxr,h2]
    exact jcd hb hX h
   |inr d'=>
    cases h
    rw[show X p c (St s)=I (Ex d)from hs,q62 (hX d)]
theorem ki {σ δ:Type}{p:jg}{c:au}{St:σ→aV}{Ex:δ→je×aV}{f:σ→Option (σ⊕δ)}(hb:∀s r,f s=I r→zd p c St Ex s r)(hX:∀d,(Ex d).1≠.normal){s:σ}{d:δ}(h:bq f s=I d):X p (.loop c) (St s)=I (Ex d):=by
 obtain⟨n,hn⟩:=IU.1 h
 exact jcd hb hX hn
theorem nT {σ δ:Type}{p:jg}{c:au}{St:σ→aV}{Ex:δ→je×aV}{f:σ→Option (σ⊕δ)}(hb:∀s r,f s=some r→zd p c St Ex s r){s:σ}{d:δ}(h:bq f s=some d)(hX:∀d,(Ex d).1≠.normal:=by first|exact fun d hh=>by cases hh|(intro d;rcases d with d|d|d<;>(intro hh;cases hh))|(intro d;rcases d with d|d<;>(intro hh;cases hh))):X p (.loop c) (St s)=some (Ex d):=ki hb hX h
section
variable {h0:Nat}{al:Option (List Nat)}{h:ql}{α:Type}
def jn (l:List α)(i:Int):Option α:=if 0≤i then l[i.toNat]? else Ea
theorem y4 {l:List α}{i:Nat}:jn l (i:Int)=l[i]?:=by simp[jn]
theorem js {z:Nat}{f:α→AVal}{l:Option (List α)}{k:IntKind}{i:Int}{x:α}(hx:jn (l.getD []) i=I x):nQ z h (I (sl z f l)) (I (.int k i))=I ⟨.ax (f x),Eb,Ea,h⟩:=by
 unfold jn at hx
 by_cases hi:0≤i
 ·rw[if_pos hi]at hx
  obtain⟨n,rfl⟩:∃n:Nat,i=(n:Int):=⟨i.toNat,by omega⟩
  exact jk8 (by simpa using hx)
 ·rw[if_neg hi]at hx;cases hx
theorem jk {s:List UInt8}{k:IntKind}{i:Int}{c:UInt8}(hx:jn s i=I c):vR h (I (.str s)) (I (.int k i))=I ⟨.int .u8 (c.toNat:Int),Eb,Ea,h⟩:=by
 unfold jn at hx
 by_cases hi:0≤i
 ·rw[if_pos hi]at hx
  obtain⟨n,rfl⟩:∃n:Nat,i=(n:Int):=⟨i.toNat,by omega⟩
  exact q63 (by simpa using hx)
 ·rw[if_neg hi]at hx;cases hx
end
section
variable {h:ql}
end
def tZ (k:IntKind)(x y:Int):Option Int:=if y=0 then Ea else I (qh k (x.tdiv y))
def nU (x y:Int):Option Int:=if y=0 then Ea else I (x.tmod y)
theorem q1l {k:IntKind}{x y v:Int}(h:tZ k x y=I v):zc .quo (.int k x) (.int k y)=I (.int k v):=by
 unfold tZ at h
 by_cases hy:y=0
 ·rw[if_pos hy]at h;cases h
 ·rw[if_neg hy]at h;cases h
  have:(y == 0)=Eb:=by simp[hy]
  simp[zc,lx,this]
theorem IV {k:IntKind}{x y v:Int}(h:nU x y=I v):zc .rem (.int k x) (.int k y)=I (.int k v):=by
 unfold nU at h
 by_cases hy:y=0
 ·rw[if_pos hy]at h;cases h
 ·rw[if_neg hy]at h;cases h
  have:(y == 0)=Eb:=by simp[hy]
  simp[zc,lx,this]
def kr (a b:List UInt8):Option (List UInt8):=if a.length+b.length≤4611686018427387904 then I (a++b)else Ea
theorem yr {a b v:List UInt8}(h:kr a b=I v):zc .add (.str a) (.str b)=I (.str v):=by
 unfold kr at h
 by_cases hl:a.length+b.length≤4611686018427387904
 ·rw[if_pos hl]at h;cases h
  simp only[zc,AR,kn,hl,decide_true,cond_true]
 ·rw[if_neg hl]at h;cases h
section
variable {p:jg}{xc:XC}{h0:Nat}{al:Option (List Nat)}{e:Env}{h:ql}
def QB (k:IntKind)(h:ql)(x:Option AVal):Option aK:=match x with
 |some (.int _ n)=>val h (.int k (qh k n))
 |_=>Ea
@[go_sem] theorem jvq {k k':IntKind}{n:Int}:QB k h (I (.int k' n))=I ⟨.int k (qh k n),Eb,Ea,h⟩:=rfl
@[go_sem] theorem j4s {k:IntKind}{x:jd}:qb p xc h0 al e h (.conv k x)=QB k h (qg e x):=by
 simp only[qb,qo,QB]
 cases qg e x with
 |none=>rfl
 |some v=>cases v<;>rfl
def IW (h:ql)(x:Option AVal):Option aK:=match x with
 |some (.str s)=>val h (.str s)
 |some (.int _ n)=>val h (.str (Utf8.encode n).data.toList)
 |_=>Ea
@[go_sem] theorem jgo {k:IntKind}{n:Int}:IW h (I (.int k n))=I ⟨.str (Utf8.encode n).data.toList,Eb,Ea,h⟩:=rfl
@[go_sem] theorem jiw {s:List UInt8}:IW h (I (.str s))=I ⟨.str s,Eb,Ea,h⟩:=rfl
@[go_sem] theorem juf {x:jd}:qb p xc h0 al e h (.dN x)=IW h (qg e x):=by
 simp only[qb,qo,IW]
 cases qg e x with
 |none=>rfl
 |some v=>cases v<;>rfl
def QC (h:ql)(x:Option AVal):Option aK:=match x with
 |some (.ptr b o)=>val h (.ptr b o)
 |some (.ax v)=>val h (.ax v)
 |some (.fn (.func f) a b)=>val h (.fn (.func f) a b)
 |_=>Ea
@[go_sem] theorem ji7 {b o:Nat}:QC h (I (.ptr b o))=I ⟨.ptr b o,Eb,Ea,h⟩:=rfl
@[go_sem] theorem jfu {v:AVal}:QC h (I (.ax v))=I ⟨.ax v,Eb,Ea,h⟩:=rfl
@[go_sem] theorem jmk {f:Nat}{a b:List AVal}:QC h (I (.fn (.func f) a b))=I ⟨.fn (.func f) a b,Eb,Ea,h⟩:=rfl
def jjt (agg:Bool)(off n:Nat)(h:ql)(x:Option AVal):Option aK:=match x with
 |some (.agg cs)=>kl h (Go.Abs.part agg cs off n)
 |_=>Ea
@[go_sem] theorem jrk {agg:Bool}{off n:Nat}{cs:List AVal}:jjt agg off n h (I (.agg cs))=kl h (Go.Abs.part agg cs off n):=rfl
def j4r (agg:Bool)(len n:Nat)(h:ql)(x i:Option AVal):Option aK:=match x,i with
 |some (.agg cs),I j=>(match idx len j with
  |some j=>kl h (Go.Abs.part agg cs (j*n) n)
  |none=>Ea)
 |_,_=>Ea
end
section
variable {p:jg}{xc:XC}{h0:Nat}{al:Option (List Nat)}{e:Env}{h:ql}{α:Type}
def jX (n kC:Nat):Option Int→Option Nat
 |none=>I kC
 |some i=>if 0≤i∧i≤n then I i.toNat else Ea
def kc (s:List α)(lo hi:Option Int):Option (List α):=match jX s.length s.length hi with
 |some j=>(match jX j 0 lo with
  |some i=>I ((s.take j).drop i)
  |none=>Ea)
 |none=>Ea
def rA (o:Option (List α))(lo hi:Option Int):Option (Option (List α)):=match kc (o.getD []) lo hi with
 |some l=>I (o.map fun _=>l)
 |none=>Ea
def pn (kC n:Nat):Option (Option AVal)→Option Nat
 |none=>I kC
 |some (I v)=>AV n v
 |some Ea=>Ea
theorem jdd {kC n:Nat}{x:Option jd}:eL e kC n x=pn kC n (x.map (qg e)):=by
 cases x with
 |none=>rfl
 |some x=>simp only[eL,H2,pn];cases qg e x<;>rfl
theorem jeu {n d:Nat}{k:IntKind}{i:Int}:AV n (.int k i)=jX n d (I i):=by
 unfold AV jX
 cases i with
 |ofNat m=>
  simp only[]
  by_cases hm:m≤n
  ·rw[if_pos ⟨by simp,by simpa using hm⟩,Nat.ble_eq_true_of_le hm];rfl
  ·rw[if_neg (by simp;omega)]
   cases hb:Nat.ble m n with
   |true=>exact absurd (Nat.le_of_ble_eq_true hb) hm
   |false=>rfl
 |negSucc m=>simp
def E6 (k:IntKind):Option Int→Option (Option AVal)
 |none=>Ea
 |some i=>I (I (.int k i))
theorem QD {d n:Nat}{k:IntKind}{x:Option Int}:pn d n (E6 k x)=jX n d x:=by
 cases x with
 |none=>rfl
 |some i=>exact jeu
def wm (sz:Nat)(h:ql)(x:Option AVal)(lo hi:Option (Option AVal)):Option aK:=match x with
 |some (.list n cD xs)=>bif Ha sz cD||xs.isEmpty then(match pn xs.length xs.length hi with
  |some j=>(match pn 0 j lo with
   |some i=>val h (.list n cD ((xs.take j).drop i))
   |none=>Ea)
  |none=>Ea)else Ea
 |some (.ms b o len)=>(match pn len len hi with
  |some j=>(match pn 0 j lo with
   |some i=>bif Ha i 0||Nat.blt i j then val h (.ms b (o+i*sz) (j-i))else Ea
   |none=>Ea)
  |none=>Ea)
 |some (.aA b bm len)=>(match pn len len hi with
  |some j=>(match pn 0 j lo with
   |some i=>bif Ha i 0 then val h (.aA b bm j)else Ea
   |none=>Ea)
  |none=>Ea)
 |_=>Ea
attribute [go_sem] Option.map_some Option.map_none
@[go_sem] theorem j3n {sz:Nat}{x:jd}{lo hi:Option jd}:qb p xc h0 al e h (.slice sz x lo hi)=wm sz h (qg e x) (lo.map (qg e)) (hi.map (qg e)):=by
 simp only[qb,qo,wm,jdd]
 cases qg e x with
 |none=>rfl
 |some v=>cases v<;>rfl
theorem jdg {z:Nat}{k k':IntKind}{f:α→AVal}{o v:Option (List α)}{lo hi:Option Int}(hv:rA o lo hi=I v):wm z h (I (sl z f o)) (E6 k lo) (E6 k' hi)=I ⟨sl z f v,Eb,Ea,h⟩:=by
 unfold rA kc at hv
 cases o with
 |none=>
  simp only[sl,wm,Hu,Ga,cond_true,QD]
  simp only[Hy]at hv
  cases h1:jX ([]:List α).length ([]:List α).length hi with
  |none=>rw[h1]at hv;cases hv
  |some j=>
   rw[h1]at hv
   simp only[]at hv
   cases h2:jX j 0 lo with
   |none=>rw[h2]at hv;cases hv
   |some i=>
    rw[h2]at hv
    cases hv
    simp only[E3]at h1
    simp only[E3,h1,h2,List.take_nil,List.drop_nil]
    rfl
 |some l=>
  simp only[sl,wm,Ip,decide_true,Hb,cond_true,QD,Gc]
  simp only[Hz]at hv
  cases h1:jX l.length l.length hi with
  |none=>rw[h1]at hv;cases hv
  |some j=>
   rw[h1]at hv
   simp only[]at hv
   cases h2:jX j 0 lo with
   |none=>rw[h2]at hv;cases hv
   |some i=>
    rw[h2]at hv
    cases hv
    simp only[h2,val,H2,List.map_drop,List.map_take]
theorem qx2 {z:Nat}{k k':IntKind}{f:α→AVal}{o v:Option (List α)}{lo hi:Int}(hv:rA o (I lo) (I hi)=I v):wm z h (I (sl z f o)) (I (I (.int k lo))) (I (I (.int k' hi)))=I ⟨sl z f v,Eb,Ea,h⟩:=jdg hv
theorem q1b {z:Nat}{k:IntKind}{f:α→AVal}{o v:Option (List α)}{lo:Int}(hv:rA o (I lo) Ea=I v):wm z h (I (sl z f o)) (I (I (.int k lo))) Ea=I ⟨sl z f v,Eb,Ea,h⟩:=jdg (k':=k) hv
def wo (h:ql)(x:Option AVal)(lo hi:Option (Option AVal)):Option aK:=match x with
 |some (.str s)=>(match pn s.length s.length hi with
  |some j=>(match pn 0 j lo with
   |some i=>val h (.str ((s.take j).drop i))
   |none=>Ea)
  |none=>Ea)
 |_=>Ea
@[go_sem] theorem jps {x:jd}{lo hi:Option jd}:qb p xc h0 al e h (.dC x lo hi)=wo h (qg e x) (lo.map (qg e)) (hi.map (qg e)):=by
 simp only[qb,qo,wo,jdd]
 cases qg e x with
 |none=>rfl
 |some v=>cases v<;>rfl
theorem QE {k k':IntKind}{s v:List UInt8}{lo hi:Option Int}(hv:kc s lo hi=I v):wo h (I (.str s)) (E6 k lo) (E6 k' hi)=I ⟨.str v,Eb,Ea,h⟩:=by
 unfold kc at hv
 simp only[wo,QD]
 cases h1:jX s.length s.length hi with
 |none=>rw[h1]at hv;cases hv
 |some j=>
  rw[h1]at hv
  simp only[]at hv
  cases h2:jX j 0 lo with
  |none=>rw[h2]at hv;cases hv
  |some i=>rw[h2]at hv;cases hv;simp only[h2,val]
theorem BT {k k':IntKind}{s v:List UInt8}{lo hi:Int}(hv:kc s (I lo) (I hi)=I v):wo h (I (.str s)) (I (I (.int k lo))) (I (I (.int k' hi)))=I ⟨.str v,Eb,Ea,h⟩:=QE hv
theorem zw {k:IntKind}{s v:List UInt8}{lo:Int}(hv:kc s (I lo) Ea=I v):wo h (I (.str s)) (I (I (.int k lo))) Ea=I ⟨.str v,Eb,Ea,h⟩:=QE (k':=k) hv
theorem rC {k:IntKind}{s v:List UInt8}{hi:Int}(hv:kc s Ea (I hi)=I v):wo h (I (.str s)) Ea (I (I (.int k hi)))=I ⟨.str v,Eb,Ea,h⟩:=QE (k:=k) hv
end
section
variable {h:ql}{α:Type}
def BN (o:Option (List α))(ys:List α):Option (List α):=match o,ys with
 |none,[]=>Ea
 |o,ys=>I (o.getD []++ys)
def cK (o:Option (List α))(ys:List α):Option (Option (List α)):=if(o.getD []).length+ys.length≤1073741824 then I (BN o ys)else Ea
theorem QF {z b:Nat}{own:Option Nat}{f:α→AVal}{o:Option (List α)}{ys:List α}{v:Option (List α)}{y:AVal}(hz:0<z)(hb:b≤4096)(hy:j9 z y=I (ys.map f))(hv:cK o ys=I v)
  (ho:o=Ea∨own.isSome=Ec):bZ z b h own (I (sl z f o)) (I y)=I ⟨sl z f v,Ec,own,h⟩:=by
 unfold cK at hv
 by_cases hl:(o.getD []).length+ys.length≤1073741824
 ·rw[if_pos hl]at hv;cases hv
  cases o with
  |none=>
   simp only[sl,bZ,bZ.gB,hy,cj,Hb,Hu,Ib,Ga,E3,Gc,kn,qX,hz,hb,decide_true]
   simp only[Hy,E3]at hl
   simp only[hl,decide_true,If,Ga]
   cases ys with
   |nil=>rfl
   |cons y ys=>simp[ol,BN,sl]
  |some l=>
   have tC:own.isSome=Ec:=by rcases ho with h|h;cases h;exact h
   simp only[sl,bZ,bZ.gB,hy,cj,tC,Ga,Ip,kn,qX,hz,hb,decide_true,Hb,Gc]
   simp only[Hz]at hl
   simp only[hl,decide_true,If]
   simp[ol,BN,sl]
 ·rw[if_neg hl]at hv;cases hv
theorem QG {z b t:Nat}{f:α→AVal}{o o2 v:Option (List α)}(hv:cK o (o2.getD [])=I v):bZ (z+1) b h (I t) (I (sl (z+1) f o)) (I (sl (z+1) f o2))=cj (decide (b≤4096)) (I ⟨sl (z+1) f v,Ec,I t,h⟩):=by
 by_cases hb:b≤4096
 ·rw[QF (by omega) hb ZI hv (.inr rfl)];simp[cj,hb]
 ·have eO:decide (b≤4096)=Eb:=by simp[hb]
  rw[eO]
  cases o with
  |none=>simp[sl,bZ,bZ.gB,cj,hb,kn];split<;>rfl
  |some l=>simp[sl,bZ,bZ.gB,cj,hb,kn];split<;>rfl
theorem Qr {z b t:Nat}{f:α→AVal}{x:α}{y:AVal}{o v:Option (List α)}(hz:0<z)(hy:j9 z y=I [f x])(hv:cK o [x]=I v):bZ z b h (I t) (I (sl z f o)) (I y)=cj (decide (b≤4096)) (I ⟨sl z f v,Ec,I t,h⟩):=by
 by_cases hb:b≤4096
 ·rw[QF hz hb hy hv (.inr rfl)];simp[cj,hb]
 ·have eO:decide (b≤4096)=Eb:=by simp[hb]
  rw[eO]
  cases o with
  |none=>simp[sl,bZ,bZ.gB,cj,hb,hy,kn]
  |some l=>simp[sl,bZ,bZ.gB,cj,hb,hy,kn]
theorem vX {z b t:Nat}{f:α→AVal}{o2 v:Option (List α)}(hv:cK (I []) (o2.getD [])=I v):bZ (z+1) b h (I t) (I (.list Eb (z+1) [])) (I (sl (z+1) f o2))=cj (decide (b≤4096)) (I ⟨sl (z+1) f v,Ec,I t,h⟩):=
 QG (o:=I []) hv
end
def qv (s:List UInt8):AVal:=.str s
@[go_sem] theorem jry {h0:Nat}{al:Option (List Nat)}{h:ql}{b:List UInt8}:y8 h0 al Eb 1 h (I (.ax (qv b)))=I ⟨.str b,Eb,Ea,h⟩:=rfl
@[go_sem] theorem jno {n z:Nat}{l:Option (List (List UInt8))}:below n (sl z qv l)=Ec:=PR fun _=>rfl
theorem Qv {b t:Nat}{h:ql}{bb:Bool}{x:Int}{o v:Option (List Int)}(hv:cK o [x]=I v):bZ 1 b h (I t) (I (sl 1 qx o)) (I (.list bb 1 [.int .i64 x]))=cj (decide (b≤4096)) (I ⟨sl 1 qx v,Ec,I t,h⟩):=Qr (by omega) rfl hv
theorem IX {b t:Nat}{h:ql}{bb:Bool}{x:List UInt8}{o v:Option (List (List UInt8))}(hv:cK o [x]=I v):bZ 1 b h (I t) (I (sl 1 qv o)) (I (.list bb 1 [.str x]))=cj (decide (b≤4096)) (I ⟨sl 1 qv v,Ec,I t,h⟩):=Qr (by omega) rfl hv
theorem IG {p:jg}{xc:XC}{k:Nat}{args:List AVal}{v v':AVal}{o:Bool}{h:ql}(hp:p.bM k=Ea)(hc:ah p xc k args []=I (v,o,h))(hz:aH h v=I v')(hv:below 0 v'=Ec)(hl:v.b6=Ec):ae p xc k args=I (v',o):=by
 rw[qm hp hc hz hv,hl,Ib]
section
variable {p:jg}{xc:XC}{h0:Nat}{al:Option (List Nat)}{e:Env}{h:ql}{α:Type}
def jkn (own:Option Nat)(v:AVal)(r:Option ql):Option aK:=match r with
 |some h'=>I ⟨v,Eb,own,h'⟩
 |none=>Ea
@[go_sem] theorem jl2 {own:Option Nat}{v:AVal}:jkn own v (I h)=I ⟨v,Eb,own,h⟩:=rfl
@[go_sem] theorem jon {z:Nat}{f:α→AVal}{o:Option (List α)}:Qc 0 Eb h (I (sl z f o))=I ⟨.bool o.isNone,Eb,Ea,h⟩:=by cases o<;>rfl
theorem Qs {z b:Nat}{f:α→AVal}{x:α}{y:AVal}{o v:Option (List α)}(hz:0<z)(hy:j9 z y=I [f x])(hn:o.isNone=Ec)(hv:cK o [x]=I v):bZ z b h Ea (I (sl z f o)) (I y)=cj (decide (b≤4096)) (I ⟨sl z f v,Ec,Ea,h⟩):=by
 cases o with
 |some l=>cases hn
 |none=>
  by_cases hb:b≤4096
  ·rw[QF hz hb hy hv (.inl rfl)];simp[cj,hb]
  ·have eO:decide (b≤4096)=Eb:=by simp[hb]
   rw[eO]
   simp[sl,bZ,bZ.gB,cj,hb,hy,kn]
theorem Qw {b:Nat}{bb:Bool}{x:Int}{o v:Option (List Int)}(hv:cK o [x]=I v)(hn:o.isNone=Ec):bZ 1 b h Ea (I (sl 1 qx o)) (I (.list bb 1 [.int .i64 x]))=cj (decide (b≤4096)) (I ⟨sl 1 qx v,Ec,Ea,h⟩):=Qs (by omega) rfl hn hv
attribute [go_sem] Nat.le_refl
end
@[go_sem] theorem j5d {h:ql}{a b c d:Int}:jf8 [.int,.int] Ec h (I (.agg [.int .i64 a,.int .i64 b])) (I (.agg [.int .i64 c,.int .i64 d]))=I ⟨.bool (!(decide (a=c)&&decide (b=d))),Eb,Ea,h⟩:=by
 show(match yd [.int,.int] [.int .i64 a,.int .i64 b] [.int .i64 c,.int .i64 d]with|some t=>val h (.bool (bif Ec then !t else t))|none=>Ea)=_
 have:yd [.int,.int] [.int .i64 a,.int .i64 b] [.int .i64 c,.int .i64 d]=I (decide (a=c)&&decide (b=d)):=by
  have e:∀x y:Int,(x == y)=decide (x=y):=fun x y=>by by_cases h:x=y<;>simp[h]
  simp only[yd,mX,e,decide_true,cond_true]
  by_cases h1:a=c<;>by_cases h2:b=d<;>simp[h1,h2]
 rw[this]
 rfl
section
variable {p:jg}{xc:XC}{h0:Nat}{al:Option (List Nat)}{e:Env}{h:ql}
end
noncomputable def qB (p:jg)(more:uL)(op:Nat→Bool):jg:={ bn:=p.bn,bR:=p.bR,maps:=p.maps,bM:=fun k=>bif op k then Ea else match more k with
 |some f=>I f
 |none=>bif (p.bn k).isSome||(p.bM k).isSome||(p.bR k).isSome then I fun args=>ae p (X p) k args else Ea }
theorem q7z {P:Program}{p:jg}{more:uL}{op:Nat→Bool}(hp:bu P p)(hm:∀k f,more k=I f→Enters P k∧∀args v o,f args=I (v,o)→jQ v=Ec→qr 0 args=Ec→IsoCall P k args v o):bu P (qB p more op) where
 fn:=hp.fn
 maps:=hp.maps
 eW:=by
  intro k f hf
  cases ho:op k with
  |true=>
   have:(qB p more op).bM k=Ea:=by simp only[qB,ho,cond_true]
   rw[this]at hf;cases hf
  |false=>
  cases tJ:more k with
  |some g=>
   have:(qB p more op).bM k=I g:=by simp only[qB,ho,cond_false,tJ]
   rw[this]at hf
   cases hf
   exact hm k _ tJ
  |none=>
   cases hk:((p.bn k).isSome||(p.bM k).isSome||(p.bR k).isSome)with
   |false=>
    have:(qB p more op).bM k=Ea:=by simp only[qB,ho,tJ,hk,cond_false]
    rw[this]at hf;cases hf
   |true=>
    have:(qB p more op).bM k=I fun args=>ae p (X p) k args:=by simp only[qB,ho,cond_false,tJ,hk,cond_true]
    rw[this]at hf
    cases hf
    refine⟨?_,fun args v o h _ hb=>qyt hp h hb⟩
    simp only[Bool.or_eq_true]at hk
    rcases hk with(h|h)|h
    ·obtain⟨af,ha⟩:=En.1 h
     exact hp.enters ha
    ·obtain⟨g,hg⟩:=En.1 h
     exact(hp.eW k g hg).1
    ·obtain⟨g,hg⟩:=En.1 h
     exact(hp.dY k g hg).1
 mixed:=hp.mixed
 dY:=hp.dY
theorem yi {i:Nat}(h:i<9223372036854775807):qh .i64 ((i:Int)+1)=((i+1:Nat):Int):=by
 rw[PK (by omega) (by omega)];rfl
variable {h:ql}
theorem IY {b:Nat}{bb:Bool}{x:List UInt8}{o v:Option (List (List UInt8))}(hv:cK o [x]=I v)(hn:o.isNone=Ec):bZ 1 b h Ea (I (sl 1 qv o)) (I (.list bb 1 [.str x]))=cj (decide (b≤4096)) (I ⟨sl 1 qv v,Ec,Ea,h⟩):=Qs (by omega) rfl hn hv
theorem lO {b pos:Nat}{s:List UInt8}(hp:decide (pos<s.length)=Ec):qZ h b (I (.iter s pos))=gY (jh h b (.iter s (pos+(qf s pos).2))) (.av [.bool Ec,.int .i64 pos,.int .i32 (qf s pos).1]):=jb5 (of_decide_eq_true hp)
theorem EG {b pos:Nat}{s:List UInt8}(hp:decide (pos<s.length)=Eb):qZ h b (I (.iter s pos))=I ⟨.av [.bool Eb],Eb,Ea,h⟩:=q55 (of_decide_eq_false hp)
end Go.Z
