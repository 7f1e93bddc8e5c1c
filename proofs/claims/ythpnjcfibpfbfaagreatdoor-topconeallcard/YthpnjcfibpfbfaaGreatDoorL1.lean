/- What the line's functions compute, and the small functions of the checks. -/
import Derived.Test.YthpnjcfibpfbfaaGreatDoorZC
import Derived.Test.YthpnjcfibpfbfaaGreatDoorAbsL
set_option linter.unusedVariables false
set_option linter.unusedSimpArgs false
set_option maxRecDepth 100000
namespace Go.Z
open Go Go.Abs
theorem ql7 {α:Type}{l:List α}{i:Nat}{x:α}(hx:l[i]?=some x):l.drop i=x::l.drop (i+1):=by
 obtain⟨h1,h2⟩:=List.getElem?_eq_some_iff.1 hx
 rw[List.drop_eq_getElem_cons h1,h2]
theorem qhr {i:Nat}{n:Nat}(h:i<n)(hn:n≤9223372036854775807):qa .i64 ((i:Int)+1)=((i+1:Nat):Int):=by
 rw[q9 (by omega) (by omega)];rfl
def jh (n lo hi:Int):Int:=if n<lo then 3 else if hi<n then 3 else 0
def qb0 (b:Bool)(e:Int):Int:=if b then e else 0
def zx:List Int→Int
 | []=>0
 |x::l=>if x=0 then zx l else x
structure qks where
 serial:List UInt8
 values:Option (List Int)
def qjv (u:qks):AVal:=.agg [.str u.serial,sl 1 y6 u.values]
@[go_sem] theorem q6p {u:qks}:(qjv u).flat=[.str u.serial,sl 1 y6 u.values]:=rfl
theorem qp4 {n:Nat}(u:qks):below n (qjv u)=true:=by simp only[qjv,go_sem]
attribute [go_sem] qp4
def acc {α:Type}(z:Nat)(f:α→AVal)(l:List α):AVal:=match l with
 | []=>.list true 0 []
 |a::l=>.list false z ((a::l).map f)
def jan {α:Type}(l:List α):Bool:=!l.isEmpty
@[go_sem] theorem jd9 {α:Type}{z:Nat}{f:α→AVal}:acc z f []=.list true 0 []:=rfl
@[go_sem] theorem jcu {α:Type}:jan (α:=α) []=false:=rfl
@[go_sem] theorem q13 {n:Nat}:yd n []=true:=rfl
@[go_sem] theorem qzd {n t:Nat}{v:AVal}{o:Bool}{e:Env}:yd n ((t,v,o)::e)=(below n v&&yd n e):=rfl
@[go_sem] theorem q18 {h0:Nat}{al:Option (List Nat)}{h:qi}{u:qks}:yr h0 al true 2 h (some (.vptr (qjv u)))=some ⟨.agg [.str u.serial,sl 1 y6 u.values],false,none,h⟩:=rfl
theorem kinds (x:Int):x≤47∨(48≤x∧x≤57)∨(58≤x∧x≤64)∨(65≤x∧x≤90)∨(91≤x∧x≤94)∨x=95∨x=96∨(97≤x∧x≤122)∨123≤x:=by omega
@[go_sem] theorem qxb {v:AVal}:ya 0 v []=[]:=rfl
@[go_sem] theorem qvy {h:qi}{u:qks}:qbl false 0 1 h (some (.vptr (qjv u)))=some ⟨.vptr (.str u.serial),false,none,h⟩:=rfl
@[go_sem] theorem je6 {n:Nat}{v:AVal}{h:qi}:ya n v h=bif Nat.ble h.length n then h else bif below n v&&js n (h.take n)then h.take n else h:=rfl
@[go_sem] theorem qy3 {n:Nat}:js n []=true:=rfl
@[go_sem] theorem qyv {n:Nat}{b:ABox}{h:qi}:js n (b::h)=(qag n b&&js n h):=rfl
@[go_sem] theorem qxs {n:Nat}{cs:List (AVal×Bool)}:qag n (.cells cs)=ku n cs:=rfl
@[go_sem] theorem qyf {n:Nat}:ku n []=true:=rfl
@[go_sem] theorem qxe {n:Nat}{v:AVal}{o:Bool}{cs:List (AVal×Bool)}:ku n ((v,o)::cs)=(below n v&&ku n cs):=rfl
def q3r (h0:Nat)(al:Option (List Nat))(sz:Nat)(h:qi)(x y:Option AVal):Option ORes:=match x,y with
  |some (.ms b o len),some vy=>bif jf h0 al b then(match ja h b with
   |some cs=>(match qh9 sz len vy with
    |some (n,vs)=>(match zn cs o vs with
     |some cs'=>bif Nat.beq vs.length (n*sz)then(match jb h b (.cells cs')with
      |some h'=>val h' (.int .i64 n)
      |none=>none)else none
     |none=>none)
    |none=>none)
   |none=>none)else none
  |_,_=>none
@[go_sem] theorem je2 {p:je}{xc:XC}{h0:Nat}{al:Option (List Nat)}{e:Env}{h:qi}{sz:Nat}{x y:qz}:qb p xc h0 al e h (.copy sz x y)=q3r h0 al sz h (qe e x) (qe e y):=rfl
@[go_sem] theorem jfp {k:IntKind}{x:Int}:qe7 .neg (.int k x)=some (.int k (qa k (0-x))):=rfl
def qvb (ks:List Kd)(neq:Bool)(h:qi)(x y:Option AVal):Option ORes:=match x,y with
  |some (.agg a),some (.agg b)=>bif Nat.beq a.length ks.length&&Nat.beq b.length ks.length then(match zg ks a b with
   |some t=>val h (.bool (bif neq then !t else t))
   |none=>none)else none
  |_,_=>none
@[go_sem] theorem jfk {p:je}{xc:XC}{h0:Nat}{al:Option (List Nat)}{e:Env}{h:qi}{ks:List Kd}{neq:Bool}{x y:qz}:qb p xc h0 al e h (.eqs ks neq x y)=qvb ks neq h (qe e x) (qe e y):=rfl
@[go_sem] theorem jfu {h:qi}{a b c d:Int}:qvb [.int,.int] false h (some (.agg [.int .i64 a,.int .i64 b])) (some (.agg [.int .i64 c,.int .i64 d]))=some ⟨.bool (decide (a=c)&&decide (b=d)),false,none,h⟩:=by
 show(match zg [.int,.int] [.int .i64 a,.int .i64 b] [.int .i64 c,.int .i64 d]with|some t=>val h (.bool (bif false then !t else t))|none=>none)=_
 have:zg [.int,.int] [.int .i64 a,.int .i64 b] [.int .i64 c,.int .i64 d]=some (decide (a=c)&&decide (b=d)):=by
  have e:∀x y:Int,(x == y)=decide (x=y):=fun x y=>by by_cases h:x=y<;>simp[h]
  simp only[zg,yu,e,decide_true,cond_true]
  by_cases h1:a=c<;>by_cases h2:b=d<;>simp[h1,h2]
 rw[this]
 rfl
def conv (f g:Nat→Nat):Nat→Nat
 |0=>f 0*g 0
 |s+1=>f 0*g (s+1)+conv (fun k=>f (k+1)) g s
def q5o (b:Bool):AVal:=.bool b
@[go_sem] theorem q2a {h0:Nat}{al:Option (List Nat)}{h:qi}{b:Bool}:yr h0 al false 1 h (some (.vptr (q5o b)))=some ⟨.bool b,false,none,h⟩:=rfl
def qh {α β:Type}(x:Option α)(f:α→Option β):Option β:=match x with
 |some a=>f a
 |none=>none
@[simp] theorem qq {α β:Type}{a:α}{f:α→Option β}:qh (some a) f=f a:=rfl
@[simp] theorem jcz {α β:Type}{f:α→Option β}:qh none f=none:=rfl
theorem qc {α β:Type}{x:Option α}{f:α→Option β}{r:β}(h:qh x f=some r):∃a,x=some a∧f a=some r:=by
 cases x with
 |none=>cases h
 |some a=>exact⟨a,rfl,h⟩
theorem qr {α:Type}{c:Bool}{a b r:α}(h:cond c a b=r):(c=true∧a=r)∨(c=false∧b=r):=by
 cases c
 ·exact .inr ⟨rfl,h⟩
 ·exact .inl ⟨rfl,h⟩
def itF {σ δ:Type}(f:σ→Option (σ⊕δ)):Nat→σ→Option δ
 |0,_=>none
 |n+1,s=>match f s with
  |none=>none
  |some (.inl s')=>itF f n s'
  |some (.inr d)=>some d
theorem qos {σ δ:Type}{f:σ→Option (σ⊕δ)}{d:δ}:∀ {n:Nat} {s:σ},itF f n s=some d→itF f (n+1) s=some d
 |0,_,h=>by cases h
 |n+1,s,h=>by
  rw[itF]at h ⊢
  cases hf:f s with
  |none=>rw[hf]at h;cases h
  |some x=>
   rw[hf]at h
   cases x with
   |inl s'=>exact qos h
   |inr d'=>exact h
theorem qtd {σ δ:Type}{f:σ→Option (σ⊕δ)}{d:δ}{n m:Nat}{s:σ}(hm:n≤m)(h:itF f n s=some d):itF f m s=some d:=by
 induction hm with
 |refl=>exact h
 |step _ ih=>exact qos ih
open Classical in
noncomputable def itO {σ δ:Type}(f:σ→Option (σ⊕δ))(s:σ):Option δ:=
 if h:∃d n,itF f n s=some d then some (Classical.choose h)else none
theorem qiq {σ δ:Type}{f:σ→Option (σ⊕δ)}{s:σ}{d:δ}:itO f s=some d↔∃n,itF f n s=some d:=by
 unfold itO
 constructor
 ·intro h
  split at h
  ·rename_i hh;cases h;exact Classical.choose_spec hh
  ·cases h
 ·rintro ⟨n,hn⟩
  have hh:∃d n,itF f n s=some d:=⟨d,n,hn⟩
  rw[dif_pos hh]
  obtain⟨m,hm⟩:=Classical.choose_spec hh
  have h1:=qtd (Nat.le_max_left n m) hn
  have h2:=qtd (Nat.le_max_right n m) hm
  rw[h1]at h2
  exact h2.symm
theorem qkd {σ δ:Type}{f:σ→Option (σ⊕δ)}{s s':σ}(h:f s=some (.inl s')):itO f s=itO f s':=by
 apply Option.ext
 intro d
 rw[qiq,qiq]
 constructor
 ·rintro ⟨n,hn⟩
  cases n with
  |zero=>cases hn
  |succ n=>rw[itF,h]at hn;exact⟨n,hn⟩
 ·rintro ⟨n,hn⟩
  exact⟨n+1,by rw[itF,h];exact hn⟩
theorem qek {σ δ:Type}{f:σ→Option (σ⊕δ)}{s:σ}{d:δ}(h:f s=some (.inr d)):itO f s=some d:=
 qiq.2 ⟨1,by rw[itF,h]⟩
def qbm {σ δ:Type}(p:je)(c:ACode)(St:σ→ASt)(Ex:δ→jo×ASt)(s:σ)(r:σ⊕δ):Prop:=match r with
 | .inl s'=>∃st',X p c (St s)=some (.normal,st')∧gc (St s).heap.length st'=St s'
 | .inr d=>X p c (St s)=some (Ex d)
theorem zz {σ δ:Type}{p:je}{c:ACode}{St:σ→ASt}{Ex:δ→jo×ASt}{s s':σ}{st':ASt}(hx:X p c (St s)=some (.normal,st'))(hc:gc (St s).heap.length st'=St s'):qbm p c St Ex s (.inl s'):=⟨st',hx,hc⟩
theorem zi {σ δ:Type}{p:je}{c:ACode}{St:σ→ASt}{Ex:δ→jo×ASt}{s:σ}{d:δ}(hx:X p c (St s)=some (Ex d)):qbm p c St Ex s (.inr d):=hx
theorem qxd {σ δ:Type}{p:je}{c:ACode}{St:σ→ASt}{Ex:δ→jo×ASt}{f:σ→Option (σ⊕δ)}(hb:∀s r,f s=some r→qbm p c St Ex s r)(hX:∀d,(Ex d).1≠.normal){d:δ}:
  ∀ {n:Nat} {s:σ},itF f n s=some d→X p (.loop c) (St s)=some (Ex d)
 |0,_,h=>by cases h
 |n+1,s,h=>by
  rw[itF]at h
  rw[qxw]
  cases hf:f s with
  |none=>rw[hf]at h;cases h
  |some x=>
   rw[hf]at h
   have hs:=hb s x hf
   cases x with
   |inl s'=>
    obtain⟨st',h1,h2⟩:=hs
    rw[h1,qoy,h2]
    exact qxd hb hX h
   |inr d'=>
    cases h
    rw[show X p c (St s)=some (Ex d)from hs,qs7 (hX d)]
theorem qd6 {σ δ:Type}{p:je}{c:ACode}{St:σ→ASt}{Ex:δ→jo×ASt}{f:σ→Option (σ⊕δ)}(hb:∀s r,f s=some r→qbm p c St Ex s r)(hX:∀d,(Ex d).1≠.normal){s:σ}{d:δ}(h:itO f s=some d):X p (.loop c) (St s)=some (Ex d):=by
 obtain⟨n,hn⟩:=qiq.1 h
 exact qxd hb hX hn
section
variable {h0:Nat}{al:Option (List Nat)}{h:qi}{α:Type}
def qgs (l:List α)(i:Int):Option α:=if 0≤i then l[i.toNat]? else none
theorem qnx {l:List α}{i:Nat}:qgs l (i:Int)=l[i]?:=by simp[qgs]
theorem yn {z:Nat}{f:α→AVal}{l:Option (List α)}{k:IntKind}{i:Int}{x:α}(hx:qgs (l.getD []) i=some x):qgj z h (some (sl z f l)) (some (.int k i))=some ⟨.vptr (f x),false,none,h⟩:=by
 unfold qgs at hx
 by_cases hi:0≤i
 ·rw[if_pos hi]at hx
  obtain⟨n,rfl⟩:∃n:Nat,i=(n:Int):=⟨i.toNat,by omega⟩
  exact qz5 (by simpa using hx)
 ·rw[if_neg hi]at hx;cases hx
end
section
variable {h:qi}
@[go_sem] theorem qy5 {agg:Bool}{len sz n:Nat}{k:IntKind}{cs:List AVal}:qfd agg len sz h (some (.vptr (.agg cs))) (some (.int k (no_index (OfNat.ofNat n:Int))))=ifR (decide ((OfNat.ofNat n:Nat)<len)) (qct agg h (Go.Abs.part agg cs ((OfNat.ofNat n:Nat)*sz) sz)):=by
 have e:(OfNat.ofNat n:Int)=(n:Int):=rfl
 have e':(OfNat.ofNat n:Nat)=n:=rfl
 rw[e,e']
 by_cases hn:n<len
 ·simp[qfd,qfz,qo4 hn,hn,ifR,qct];rfl
 ·have hi:qhi len (n:Int)=none:=by unfold qhi;rw[if_neg (by omega)]
  simp[qfd,qfz,hi,hn,ifR]
end
def qdw (k:IntKind)(x y:Int):Option Int:=if y=0 then none else some (qa k (x.tdiv y))
def qc7 (x y:Int):Option Int:=if y=0 then none else some (x.tmod y)
theorem qcc {k:IntKind}{x y v:Int}(h:qdw k x y=some v):jw .quo (.int k x) (.int k y)=some (.int k v):=by
 unfold qdw at h
 by_cases hy:y=0
 ·rw[if_pos hy]at h;cases h
 ·rw[if_neg hy]at h;cases h
  have:(y == 0)=false:=by simp[hy]
  simp[jw,kf,this]
theorem jp {k:IntKind}{x y v:Int}(h:qc7 x y=some v):jw .rem (.int k x) (.int k y)=some (.int k v):=by
 unfold qc7 at h
 by_cases hy:y=0
 ·rw[if_pos hy]at h;cases h
 ·rw[if_neg hy]at h;cases h
  have:(y == 0)=false:=by simp[hy]
  simp[jw,kf,this]
def shO (op:BinOp)(k:IntKind)(x y:Int):Option Int:=match qb3 op k x y with
 |some (.int _ v)=>some v
 |_=>none
abbrev qhu:=shO .shr
theorem qf5 {k:IntKind}{k':IntKind}{x y v:Int}(h:qhu k x y=some v):jw .shr (.int k x) (.int k' y)=some (.int k v):=by
 simp only[qhu,shO,qb3]at h
 simp only[jw,qb3]
 cases hy:decide (y<0)with
 |true=>rw[hy]at h;cases h
 |false=>rw[hy]at h;simp only[cond_false]at h ⊢;cases h;rfl
def qgi (op:BinOp)(k:IntKind)(x y:Int):Int:=match kf op k x y with
 |some (.int _ v)=>v
 |_=>0
@[go_sem] theorem jfj {k:IntKind}{x y:Int}:jw .and (.int k x) (.int k y)=some (.int k (qgi .and k x y)):=by simp[jw,kf,qgi]
section
variable {p:je}{xc:XC}{h0:Nat}{al:Option (List Nat)}{e:Env}{h:qi}
def qr5 (k:IntKind)(h:qi)(x:Option AVal):Option ORes:=match x with
 |some (.int _ n)=>val h (.int k (qa k n))
 |_=>none
@[go_sem] theorem q72 {k k':IntKind}{n:Int}:qr5 k h (some (.int k' n))=some ⟨.int k (qa k n),false,none,h⟩:=rfl
@[go_sem] theorem je4 {k:IntKind}{x:qz}:qb p xc h0 al e h (.conv k x)=qr5 k h (qe e x):=by
 simp only[qb,qg,qr5]
 cases qe e x with
 |none=>rfl
 |some v=>cases v<;>rfl
def qpd (h:qi)(x:Option AVal):Option ORes:=match x with
 |some (.str s)=>val h (.str s)
 |some (.int _ n)=>val h (.str (Utf8.encode n).data.toList)
 |_=>none
@[go_sem] theorem q0u {k:IntKind}{n:Int}:qpd h (some (.int k n))=some ⟨.str (Utf8.encode n).data.toList,false,none,h⟩:=rfl
@[go_sem] theorem qz3 {s:List UInt8}:qpd h (some (.str s))=some ⟨.str s,false,none,h⟩:=rfl
def qh8 (h:qi)(x:Option AVal):Option ORes:=match x with
 |some (.ptr b o)=>val h (.ptr b o)
 |some (.vptr v)=>val h (.vptr v)
 |some (.fn (.func f) a b)=>val h (.fn (.func f) a b)
 |_=>none
@[go_sem] theorem q1z {b o:Nat}:qh8 h (some (.ptr b o))=some ⟨.ptr b o,false,none,h⟩:=rfl
@[go_sem] theorem qyz {v:AVal}:qh8 h (some (.vptr v))=some ⟨.vptr v,false,none,h⟩:=rfl
@[go_sem] theorem q26 {f:Nat}{a b:List AVal}:qh8 h (some (.fn (.func f) a b))=some ⟨.fn (.func f) a b,false,none,h⟩:=rfl
def q0x (agg:Bool)(off n:Nat)(h:qi)(x:Option AVal):Option ORes:=match x with
 |some (.agg cs)=>y9 h (Go.Abs.part agg cs off n)
 |_=>none
@[go_sem] theorem q5b {agg:Bool}{off n:Nat}{cs:List AVal}:q0x agg off n h (some (.agg cs))=y9 h (Go.Abs.part agg cs off n):=rfl
end
section
variable {p:je}{xc:XC}{h0:Nat}{al:Option (List Nat)}{e:Env}{h:qi}{α:Type}
attribute [go_sem] Option.map_some Option.map_none
end
def jdo (s:List UInt8):AVal:=.str s
@[go_sem] theorem q6j {h0:Nat}{al:Option (List Nat)}{h:qi}{b:List UInt8}:yr h0 al false 1 h (some (.vptr (jdo b)))=some ⟨.str b,false,none,h⟩:=rfl
structure GRat where
 num:Int
 den:Int
section
variable {p:je}{xc:XC}{h0:Nat}{al:Option (List Nat)}{e:Env}{h:qi}{α:Type}
def q1s (own:Option Nat)(v:AVal)(r:Option qi):Option ORes:=match r with
 |some h'=>some ⟨v,false,own,h'⟩
 |none=>none
@[go_sem] theorem q2o {own:Option Nat}{v:AVal}:q1s own v (some h)=some ⟨v,false,own,h⟩:=rfl
attribute [go_sem] Nat.le_refl
end
@[go_sem] theorem jfe {h:qi}{a b c d:Int}:qvb [.int,.int] true h (some (.agg [.int .i64 a,.int .i64 b])) (some (.agg [.int .i64 c,.int .i64 d]))=some ⟨.bool (!(decide (a=c)&&decide (b=d))),false,none,h⟩:=by
 show(match zg [.int,.int] [.int .i64 a,.int .i64 b] [.int .i64 c,.int .i64 d]with|some t=>val h (.bool (bif true then !t else t))|none=>none)=_
 have:zg [.int,.int] [.int .i64 a,.int .i64 b] [.int .i64 c,.int .i64 d]=some (decide (a=c)&&decide (b=d)):=by
  have e:∀x y:Int,(x == y)=decide (x=y):=fun x y=>by by_cases h:x=y<;>simp[h]
  simp only[zg,yu,e,decide_true,cond_true]
  by_cases h1:a=c<;>by_cases h2:b=d<;>simp[h1,h2]
 rw[this]
 rfl
section
variable {p:je}{xc:XC}{h0:Nat}{al:Option (List Nat)}{e:Env}{h:qi}
end
noncomputable def qah (p:je)(more:qff)(op:Nat→Bool):je:={ fns:=p.fns,sprims:=p.sprims,maps:=p.maps,prims:=fun k=>bif op k then none else match more k with
 |some f=>some f
 |none=>bif (p.fns k).isSome||(p.prims k).isSome||(p.sprims k).isSome then some fun args=>qd p (X p) k args else none }
theorem qmy {p:je}{xc:XC}{k:Nat}{args:List AVal}{r:AVal×Bool}(h:qd p xc k args=some r):((p.fns k).isSome||(p.prims k).isSome||(p.sprims k).isSome)=true:=by
 unfold qd at h
 split at h
 ·rename_i f hf;simp[hf]
 ·split at h
  ·rename_i hc
   unfold jq at hc
   split at hc
   ·rename_i f hf;simp[hf]
   ·split at hc
    ·rename_i f hf;simp[hf]
    ·cases hc
  ·cases h
theorem qra {p:je}{more:qff}{op:Nat→Bool}{k:Nat}(ho:op k=false)(hm:more k=none){xc:XC}{args:List AVal}{v:AVal}{o:Bool}(h:qd p (X p) k args=some (v,o))(hv:qa0 v=true):qd (qah p more op) xc k args=some (v,o):=by
 have hk:=qmy h
 unfold qd
 have:(qah p more op).prims k=some fun args=>qd p (X p) k args:=by simp only[qah,ho,cond_false,hm,hk,cond_true]
 rw[this]
 simp only[h,hv,cond_true]
theorem qrs {p:je}{more:qff}{op:Nat→Bool}{k:Nat}{f:List AVal→Option (AVal×Bool)}(ho:op k=false)(hm:more k=some f){xc:XC}{args:List AVal}{v:AVal}{o:Bool}(h:f args=some (v,o))(hv:qa0 v=true):qd (qah p more op) xc k args=some (v,o):=by
 unfold qd
 have:(qah p more op).prims k=some f:=by simp only[qah,ho,cond_false,hm]
 rw[this]
 simp only[h,hv,cond_true]
theorem qv2 {P:Program}{p:je}{more:qff}{op:Nat→Bool}(hp:ProgOk P p)(hm:∀k f,more k=some f→Enters P k∧∀args v o,f args=some (v,o)→qa0 v=true→qo 0 args=true→IsoCall P k args v o):ProgOk P (qah p more op) where
 fn:=hp.fn
 maps:=hp.maps
 prim:=by
  intro k f hf
  cases ho:op k with
  |true=>
   have:(qah p more op).prims k=none:=by simp only[qah,ho,cond_true]
   rw[this]at hf;cases hf
  |false=>
  cases hmk:more k with
  |some g=>
   have:(qah p more op).prims k=some g:=by simp only[qah,ho,cond_false,hmk]
   rw[this]at hf
   cases hf
   exact hm k _ hmk
  |none=>
   cases hk:((p.fns k).isSome||(p.prims k).isSome||(p.sprims k).isSome)with
   |false=>
    have:(qah p more op).prims k=none:=by simp only[qah,ho,hmk,hk,cond_false]
    rw[this]at hf;cases hf
   |true=>
    have:(qah p more op).prims k=some fun args=>qd p (X p) k args:=by simp only[qah,ho,cond_false,hmk,hk,cond_true]
    rw[this]at hf
    cases hf
    refine⟨?_,fun args v o h _ hb=>qnp hp h hb⟩
    simp only[Bool.or_eq_true]at hk
    rcases hk with(h|h)|h
    ·obtain⟨af,ha⟩:=Option.isSome_iff_exists.1 h
     exact hp.enters ha
    ·obtain⟨g,hg⟩:=Option.isSome_iff_exists.1 h
     exact(hp.prim k g hg).1
    ·obtain⟨g,hg⟩:=Option.isSome_iff_exists.1 h
     exact(hp.sprim k g hg).1
 mixed:=hp.mixed
 sprim:=hp.sprim
end Go.Z
