/- Functions in Option that mirror the machine's runs. -/
import Derived.Test.YtnjngdcbkkonnaaGreatDoorL1
set_option linter.unusedVariables false
set_option linter.unusedSimpArgs false
set_option maxRecDepth 100000
namespace Go.Z
open Go Go.Abs
def j5 {α β:Type}(x:Option α)(f:α→Option β):Option β:=match x with
 |some a=>f a
 |none=>none
@[simp] theorem j6 {α β:Type}{a:α}{f:α→Option β}:j5 (some a) f=f a:=rfl
@[simp] theorem jzd {α β:Type}{f:α→Option β}:j5 none f=none:=rfl
theorem jz {α β:Type}{x:Option α}{f:α→Option β}{r:β}(h:j5 x f=some r):∃a,x=some a∧f a=some r:=by
 cases x with
 |none=>cases h
 |some a=>exact⟨a,rfl,h⟩
theorem j0 {α:Type}{c:Bool}{a b r:α}(h:cond c a b=r):(c=true∧a=r)∨(c=false∧b=r):=by
 cases c
 ·exact .inr ⟨rfl,h⟩
 ·exact .inl ⟨rfl,h⟩
def itF {σ δ:Type}(f:σ→Option (σ⊕δ)):Nat→σ→Option δ
 |0,_=>none
 |n+1,s=>match f s with
  |none=>none
  |some (.inl s')=>itF f n s'
  |some (.inr d)=>some d
theorem q3b {σ δ:Type}{f:σ→Option (σ⊕δ)}{d:δ}:∀ {n:Nat} {s:σ},itF f n s=some d→itF f (n+1) s=some d
 |0,_,h=>by cases h
 |n+1,s,h=>by
  rw[itF]at h ⊢
  cases hf:f s with
  |none=>rw[hf]at h;cases h
  |some x=>
   rw[hf]at h
   cases x with
   |inl s'=>exact q3b h
   |inr d'=>exact h
theorem jaj {σ δ:Type}{f:σ→Option (σ⊕δ)}{d:δ}{n m:Nat}{s:σ}(hm:n≤m)(h:itF f n s=some d):itF f m s=some d:=by
 induction hm with
 |refl=>exact h
 |step _ ih=>exact q3b ih
open Classical in
noncomputable def itO {σ δ:Type}(f:σ→Option (σ⊕δ))(s:σ):Option δ:=
 if h:∃d n,itF f n s=some d then some (Classical.choose h)else none
theorem qtl {σ δ:Type}{f:σ→Option (σ⊕δ)}{s:σ}{d:δ}:itO f s=some d↔∃n,itF f n s=some d:=by
 unfold itO
 constructor
 ·intro h
  split at h
  ·rename_i hh;cases h;exact Classical.choose_spec hh
  ·cases h
 ·rintro ⟨n,hn⟩
  have hh:∃d n,itF f n s=some d:=⟨d,n,hn⟩
  rw[dif_pos hh]
  obtain⟨m,hm⟩:=Classical.choose_spec hh
  have h1:=jaj (Nat.le_max_left n m) hn
  have h2:=jaj (Nat.le_max_right n m) hm
  rw[h1]at h2
  exact h2.symm
theorem qbi {σ δ:Type}{f:σ→Option (σ⊕δ)}{s s':σ}(h:f s=some (.inl s')):itO f s=itO f s':=by
 apply Option.ext
 intro d
 rw[qtl,qtl]
 constructor
 ·rintro ⟨n,hn⟩
  cases n with
  |zero=>cases hn
  |succ n=>rw[itF,h]at hn;exact⟨n,hn⟩
 ·rintro ⟨n,hn⟩
  exact⟨n+1,by rw[itF,h];exact hn⟩
theorem qab {σ δ:Type}{f:σ→Option (σ⊕δ)}{s:σ}{d:δ}(h:f s=some (.inr d)):itO f s=some d:=
 qtl.2 ⟨1,by rw[itF,h]⟩
def yh {σ δ:Type}(p:qn)(c:qe)(St:σ→qc)(Ex:δ→qi×qc)(s:σ)(r:σ⊕δ):Prop:=match r with
 | .inl s'=>∃st',X p c (St s)=some (.normal,st')∧gc (St s).heap.length st'=St s'
 | .inr d=>X p c (St s)=some (Ex d)
theorem qex {σ δ:Type}{p:qn}{c:qe}{St:σ→qc}{Ex:δ→qi×qc}{s s':σ}{st':qc}(hx:X p c (St s)=some (.normal,st'))(hc:gc (St s).heap.length st'=St s'):yh p c St Ex s (.inl s'):=⟨st',hx,hc⟩
theorem j8 {σ δ:Type}{p:qn}{c:qe}{St:σ→qc}{Ex:δ→qi×qc}{s:σ}{d:δ}(hx:X p c (St s)=some (Ex d)):yh p c St Ex s (.inr d):=hx
theorem jf2 {σ δ:Type}{p:qn}{c:qe}{St:σ→qc}{Ex:δ→qi×qc}{f:σ→Option (σ⊕δ)}(hb:∀s r,f s=some r→yh p c St Ex s r)(hX:∀d,(Ex d).1≠.normal){d:δ}:
  ∀ {n:Nat} {s:σ},itF f n s=some d→X p (.loop c) (St s)=some (Ex d)
 |0,_,h=>by cases h
 |n+1,s,h=>by
  rw[itF]at h
  rw[q6h]
  cases hf:f s with
  |none=>rw[hf]at h;cases h
  |some x=>
   rw[hf]at h
   have hs:=hb s x hf
   cases x with
   |inl s'=>
    obtain⟨st',h1,h2⟩:=hs
    rw[h1,q2t,h2]
    exact jf2 hb hX h
   |inr d'=>
    cases h
    rw[show X p c (St s)=some (Ex d)from hs,jbm (hX d)]
theorem yo {σ δ:Type}{p:qn}{c:qe}{St:σ→qc}{Ex:δ→qi×qc}{f:σ→Option (σ⊕δ)}(hb:∀s r,f s=some r→yh p c St Ex s r)(hX:∀d,(Ex d).1≠.normal){s:σ}{d:δ}(h:itO f s=some d):X p (.loop c) (St s)=some (Ex d):=by
 obtain⟨n,hn⟩:=qtl.1 h
 exact jf2 hb hX hn
section
variable {h0:Nat}{al:Option (List Nat)}{h:zd}{α:Type}
def yd (l:List α)(i:Int):Option α:=if 0≤i then l[i.toNat]? else none
theorem qgg {l:List α}{i:Nat}:yd l (i:Int)=l[i]?:=by simp[yd]
theorem zf {z:Nat}{f:α→qa}{l:Option (List α)}{k:IntKind}{i:Int}{x:α}(hx:yd (l.getD []) i=some x):qq9 z h (some (sl z f l)) (some (.int k i))=some ⟨.vptr (f x),false,none,h⟩:=by
 unfold yd at hx
 by_cases hi:0≤i
 ·rw[if_pos hi]at hx
  obtain⟨n,rfl⟩:∃n:Nat,i=(n:Int):=⟨i.toNat,by omega⟩
  exact jmq (by simpa using hx)
 ·rw[if_neg hi]at hx;cases hx
theorem yw {s:List UInt8}{k:IntKind}{i:Int}{c:UInt8}(hx:yd s i=some c):qpg h (some (.str s)) (some (.int k i))=some ⟨.int .u8 (c.toNat:Int),false,none,h⟩:=by
 unfold yd at hx
 by_cases hi:0≤i
 ·rw[if_pos hi]at hx
  obtain⟨n,rfl⟩:∃n:Nat,i=(n:Int):=⟨i.toNat,by omega⟩
  exact jax (by simpa using hx)
 ·rw[if_neg hi]at hx;cases hx
end
section
variable {h:zd}
@[go_sem] theorem jla {agg:Bool}{len sz b o n:Nat}{k:IntKind}:qe7 agg len sz h (some (.ptr b o)) (some (.int k (no_index (OfNat.ofNat n:Int))))=ifR (decide ((OfNat.ofNat n:Nat)<len)) (some ⟨.ptr b (o+(OfNat.ofNat n:Nat)*sz),false,none,h⟩):=by
 have e:(OfNat.ofNat n:Int)=(n:Int):=rfl
 have e':(OfNat.ofNat n:Nat)=n:=rfl
 rw[e,e']
 by_cases hn:n<len
 ·simp[qe7,qek,qqi hn,hn,ifR,val]
 ·have hi:qjv len (n:Int)=none:=by unfold qjv;rw[if_neg (by omega)]
  simp[qe7,qek,hi,hn,ifR]
@[go_sem] theorem ji8 {agg:Bool}{len sz n:Nat}{k:IntKind}{cs:List qa}:qe7 agg len sz h (some (.vptr (.agg cs))) (some (.int k (no_index (OfNat.ofNat n:Int))))=ifR (decide ((OfNat.ofNat n:Nat)<len)) (qhf agg h (Go.Abs.part agg cs ((OfNat.ofNat n:Nat)*sz) sz)):=by
 have e:(OfNat.ofNat n:Int)=(n:Int):=rfl
 have e':(OfNat.ofNat n:Nat)=n:=rfl
 rw[e,e']
 by_cases hn:n<len
 ·simp[qe7,qek,qqi hn,hn,ifR,qhf];rfl
 ·have hi:qjv len (n:Int)=none:=by unfold qjv;rw[if_neg (by omega)]
  simp[qe7,qek,hi,hn,ifR]
end
def qey (k:IntKind)(x y:Int):Option Int:=if y=0 then none else some (za k (x.tdiv y))
def qmd (x y:Int):Option Int:=if y=0 then none else some (x.tmod y)
theorem qaz {k:IntKind}{x y v:Int}(h:qey k x y=some v):k9 .quo (.int k x) (.int k y)=some (.int k v):=by
 unfold qey at h
 by_cases hy:y=0
 ·rw[if_pos hy]at h;cases h
 ·rw[if_neg hy]at h;cases h
  have:(y == 0)=false:=by simp[hy]
  simp[k9,qcm,this]
theorem qeo {k:IntKind}{x y v:Int}(h:qmd x y=some v):k9 .rem (.int k x) (.int k y)=some (.int k v):=by
 unfold qmd at h
 by_cases hy:y=0
 ·rw[if_pos hy]at h;cases h
 ·rw[if_neg hy]at h;cases h
  have:(y == 0)=false:=by simp[hy]
  simp[k9,qcm,this]
def shO (op:BinOp)(k:IntKind)(x y:Int):Option Int:=match qgf op k x y with
 |some (.int _ v)=>some v
 |_=>none
abbrev qsd:=shO .shr
theorem qny {k:IntKind}{k':IntKind}{x y v:Int}(h:qsd k x y=some v):k9 .shr (.int k x) (.int k' y)=some (.int k v):=by
 simp only[qsd,shO,qgf]at h
 simp only[k9,qgf]
 cases hy:decide (y<0)with
 |true=>rw[hy]at h;cases h
 |false=>rw[hy]at h;simp only[cF]at h ⊢;cases h;rfl
def qqm (op:BinOp)(k:IntKind)(x y:Int):Int:=match qcm op k x y with
 |some (.int _ v)=>v
 |_=>0
@[go_sem] theorem j5p {k:IntKind}{x y:Int}:k9 .and (.int k x) (.int k y)=some (.int k (qqm .and k x y)):=by simp[k9,qcm,qqm]
def jc4 (a b:List UInt8):Option (List UInt8):=if a.length+b.length≤4611686018427387904 then some (a++b)else none
theorem jgy {a b v:List UInt8}(h:jc4 a b=some v):k9 .add (.str a) (.str b)=some (.str v):=by
 unfold jc4 at h
 by_cases hl:a.length+b.length≤4611686018427387904
 ·rw[if_pos hl]at h;cases h
  simp only[k9,qof,qbx,hl,decide_true,cT]
 ·rw[if_neg hl]at h;cases h
section
variable {p:qn}{xc:XC}{h0:Nat}{al:Option (List Nat)}{e:Env}{h:zd}
def q66 (k:IntKind)(h:zd)(x:Option qa):Option qm:=match x with
 |some (.int _ n)=>val h (.int k (za k n))
 |_=>none
@[go_sem] theorem jyn {k k':IntKind}{n:Int}:q66 k h (some (.int k' n))=some ⟨.int k (za k n),false,none,h⟩:=rfl
@[go_sem] theorem j43 {k:IntKind}{x:qf}:j9 p xc h0 al e h (.conv k x)=q66 k h (zc e x):=by
 simp only[j9,zn,q66]
 cases zc e x with
 |none=>rfl
 |some v=>cases v<;>rfl
def q3w (h:zd)(x:Option qa):Option qm:=match x with
 |some (.str s)=>val h (.str s)
 |some (.int _ n)=>val h (.str (Utf8.encode n).data.toList)
 |_=>none
@[go_sem] theorem jj4 {k:IntKind}{n:Int}:q3w h (some (.int k n))=some ⟨.str (Utf8.encode n).data.toList,false,none,h⟩:=rfl
@[go_sem] theorem jjs {s:List UInt8}:q3w h (some (.str s))=some ⟨.str s,false,none,h⟩:=rfl
def qi5 (h:zd)(x:Option qa):Option qm:=match x with
 |some (.ptr b o)=>val h (.ptr b o)
 |some (.vptr v)=>val h (.vptr v)
 |some (.fn (.func f) a b)=>val h (.fn (.func f) a b)
 |_=>none
@[go_sem] theorem jjg {b o:Nat}:qi5 h (some (.ptr b o))=some ⟨.ptr b o,false,none,h⟩:=rfl
@[go_sem] theorem jiy {v:qa}:qi5 h (some (.vptr v))=some ⟨.vptr v,false,none,h⟩:=rfl
@[go_sem] theorem joc {f:Nat}{a b:List qa}:qi5 h (some (.fn (.func f) a b))=some ⟨.fn (.func f) a b,false,none,h⟩:=rfl
@[go_sem] theorem jvr {x:qf}:j9 p xc h0 al e h (.nilCheck x)=qi5 h (zc e x):=by
 simp only[j9,zn,qi5];rfl
def jln (agg:Bool)(off n:Nat)(h:zd)(x:Option qa):Option qm:=match x with
 |some (.agg cs)=>qb8 h (Go.Abs.part agg cs off n)
 |_=>none
@[go_sem] theorem jvl {agg:Bool}{off n:Nat}{cs:List qa}:jln agg off n h (some (.agg cs))=qb8 h (Go.Abs.part agg cs off n):=rfl
def qrw (agg:Bool)(len n:Nat)(h:zd)(x i:Option qa):Option qm:=match x,i with
 |some (.agg cs),some j=>(match idx len j with
  |some j=>qb8 h (Go.Abs.part agg cs (j*n) n)
  |none=>none)
 |_,_=>none
@[go_sem] theorem j4s {agg:Bool}{len n:Nat}{x i:qf}:j9 p xc h0 al e h (.index agg len n x i)=qrw agg len n h (zc e x) (zc e i):=by
 simp only[j9,zn,qrw]
 cases zc e x with
 |none=>cases zc e i<;>rfl
 |some v=>cases v<;>cases zc e i<;>rfl
@[go_sem] theorem jwt {agg:Bool}{len sz n:Nat}{k:IntKind}{cs:List qa}:qrw agg len sz h (some (.agg cs)) (some (.int k (no_index (OfNat.ofNat n:Int))))=ifR (decide ((OfNat.ofNat n:Nat)<len)) (qb8 h (Go.Abs.part agg cs ((OfNat.ofNat n:Nat)*sz) sz)):=by
 have e:(OfNat.ofNat n:Int)=(n:Int):=rfl
 have e':(OfNat.ofNat n:Nat)=n:=rfl
 rw[e,e']
 by_cases hn:n<len
 ·simp[qrw,qek,qqi hn,hn,ifR]
 ·have hi:qjv len (n:Int)=none:=by unfold qjv;rw[if_neg (by omega)]
  simp[qrw,qek,hi,hn,ifR]
end
section
variable {p:qn}{xc:XC}{h0:Nat}{al:Option (List Nat)}{e:Env}{h:zd}{α:Type}
def qnj (n dflt:Nat):Option Int→Option Nat
 |none=>some dflt
 |some i=>if 0≤i∧i≤n then some i.toNat else none
def jdx (s:List α)(lo hi:Option Int):Option (List α):=match qnj s.length s.length hi with
 |some j=>(match qnj j 0 lo with
  |some i=>some ((s.take j).drop i)
  |none=>none)
 |none=>none
def qtv (o:Option (List α))(lo hi:Option Int):Option (Option (List α)):=match jdx (o.getD []) lo hi with
 |some l=>some (o.map fun _=>l)
 |none=>none
def qv3 (dflt n:Nat):Option (Option qa)→Option Nat
 |none=>some dflt
 |some (some v)=>qtp n v
 |some none=>none
theorem juj {dflt n:Nat}{x:Option qf}:bnd e dflt n x=qv3 dflt n (x.map (zc e)):=by
 cases x with
 |none=>rfl
 |some x=>simp only[bnd,Option.map_some,qv3];cases zc e x<;>rfl
theorem jgz {n d:Nat}{k:IntKind}{i:Int}:qtp n (.int k i)=qnj n d (some i):=by
 unfold qtp qnj
 cases i with
 |ofNat m=>
  simp only[]
  by_cases hm:m≤n
  ·rw[if_pos ⟨by simp,by simpa using hm⟩,Nat.ble_eq_true_of_le hm];rfl
  ·rw[if_neg (by simp;omega)]
   cases hb:Nat.ble m n with
   |true=>exact absurd (Nat.le_of_ble_eq_true hb) hm
   |false=>rfl
 |negSucc m=>simp
def jel (k:IntKind):Option Int→Option (Option qa)
 |none=>none
 |some i=>some (some (.int k i))
theorem q9j {d n:Nat}{k:IntKind}{x:Option Int}:qv3 d n (jel k x)=qnj n d x:=by
 cases x with
 |none=>rfl
 |some i=>exact jgz
def qzf (sz:Nat)(h:zd)(x:Option qa)(lo hi:Option (Option qa)):Option qm:=match x with
 |some (.list n sz' xs)=>bif Nat.beq sz sz'||xs.isEmpty then(match qv3 xs.length xs.length hi with
  |some j=>(match qv3 0 j lo with
   |some i=>val h (.list n sz' ((xs.take j).drop i))
   |none=>none)
  |none=>none)else none
 |some (.ms b o len)=>(match qv3 len len hi with
  |some j=>(match qv3 0 j lo with
   |some i=>bif Nat.beq i 0||Nat.blt i j then val h (.ms b (o+i*sz) (j-i))else none
   |none=>none)
  |none=>none)
 |_=>none
attribute [go_sem] Option.map_some Option.map_none
@[go_sem] theorem j37 {sz:Nat}{x:qf}{lo hi:Option qf}:j9 p xc h0 al e h (.slice sz x lo hi)=qzf sz h (zc e x) (lo.map (zc e)) (hi.map (zc e)):=by
 simp only[j9,zn,qzf,juj]
 cases zc e x with
 |none=>rfl
 |some v=>cases v<;>rfl
theorem jrn {z:Nat}{k k':IntKind}{f:α→qa}{o v:Option (List α)}{lo hi:Option Int}(hv:qtv o lo hi=some v):qzf z h (some (sl z f o)) (jel k lo) (jel k' hi)=some ⟨sl z f v,false,none,h⟩:=by
 unfold qtv jdx at hv
 cases o with
 |none=>
  simp only[sl,qzf,List.isEmpty_nil,Bool.or_true,cT,q9j]
  simp only[Option.getD_none]at hv
  cases h1:qnj ([]:List α).length ([]:List α).length hi with
  |none=>rw[h1]at hv;cases hv
  |some j=>
   rw[h1]at hv
   simp only[]at hv
   cases h2:qnj j 0 lo with
   |none=>rw[h2]at hv;cases hv
   |some i=>
    rw[h2]at hv
    cases hv
    simp only[List.length_nil]at h1
    simp only[List.length_nil,h1,h2,List.take_nil,List.drop_nil]
    rfl
 |some l=>
  simp only[sl,qzf,qkm,decide_true,Bool.true_or,cT,q9j,List.length_map]
  simp only[Option.getD_some]at hv
  cases h1:qnj l.length l.length hi with
  |none=>rw[h1]at hv;cases hv
  |some j=>
   rw[h1]at hv
   simp only[]at hv
   cases h2:qnj j 0 lo with
   |none=>rw[h2]at hv;cases hv
   |some i=>
    rw[h2]at hv
    cases hv
    simp only[h2,val,Option.map_some,List.map_drop,List.map_take]
theorem q4g {z:Nat}{k k':IntKind}{f:α→qa}{o v:Option (List α)}{lo hi:Int}(hv:qtv o (some lo) (some hi)=some v):qzf z h (some (sl z f o)) (some (some (.int k lo))) (some (some (.int k' hi)))=some ⟨sl z f v,false,none,h⟩:=jrn hv
end
section
variable {h:zd}{α:Type}
def apS (o:Option (List α))(ys:List α):Option (List α):=match o,ys with
 |none,[]=>none
 |o,ys=>some (o.getD []++ys)
def apO (o:Option (List α))(ys:List α):Option (Option (List α)):=if(o.getD []).length+ys.length≤1073741824 then some (apS o ys)else none
theorem qy9 {z b:Nat}{own:Option Nat}{f:α→qa}{o:Option (List α)}{ys:List α}{v:Option (List α)}{y:qa}(hz:0<z)(hb:b≤4096)(hy:qax z y=some (ys.map f))(hv:apO o ys=some v)
  (ho:o=none∨own.isSome=true):appR z b h own (some (sl z f o)) (some y)=some ⟨sl z f v,true,own,h⟩:=by
 unfold apO at hv
 by_cases hl:(o.getD []).length+ys.length≤1073741824
 ·rw[if_pos hl]at hv;cases hv
  cases o with
  |none=>
   simp only[sl,appR,appR.appS,hy,ifR,Bool.true_or,List.isEmpty_nil,Bool.and_true,Bool.or_true,List.length_nil,List.length_map,qbx,qdb,hz,hb,decide_true]
   simp only[Option.getD_none,List.length_nil]at hl
   simp only[hl,decide_true,Bool.and_self,Bool.or_true]
   cases ys with
   |nil=>rfl
   |cons y ys=>simp[qhe,apS,sl]
  |some l=>
   have ho':own.isSome=true:=by rcases ho with h|h;cases h;exact h
   simp only[sl,appR,appR.appS,hy,ifR,ho',Bool.or_true,qkm,qbx,qdb,hz,hb,decide_true,Bool.true_or,List.length_map]
   simp only[Option.getD_some]at hl
   simp only[hl,decide_true,Bool.and_self]
   simp[qhe,apS,sl]
 ·rw[if_neg hl]at hv;cases hv
theorem qp9 {z b t:Nat}{f:α→qa}{o o2 v:Option (List α)}(hv:apO o (o2.getD [])=some v):appR (z+1) b h (some t) (some (sl (z+1) f o)) (some (sl (z+1) f o2))=ifR (decide (b≤4096)) (some ⟨sl (z+1) f v,true,some t,h⟩):=by
 by_cases hb:b≤4096
 ·rw[qy9 (by omega) hb q97 hv (.inr rfl)];simp[ifR,hb]
 ·have hb':decide (b≤4096)=false:=by simp[hb]
  rw[hb']
  cases o with
  |none=>simp[sl,appR,appR.appS,ifR,hb,qbx];split<;>rfl
  |some l=>simp[sl,appR,appR.appS,ifR,hb,qbx];split<;>rfl
theorem qjc {z b t:Nat}{f:α→qa}{x:α}{y:qa}{o v:Option (List α)}(hz:0<z)(hy:qax z y=some [f x])(hv:apO o [x]=some v):appR z b h (some t) (some (sl z f o)) (some y)=ifR (decide (b≤4096)) (some ⟨sl z f v,true,some t,h⟩):=by
 by_cases hb:b≤4096
 ·rw[qy9 hz hb hy hv (.inr rfl)];simp[ifR,hb]
 ·have hb':decide (b≤4096)=false:=by simp[hb]
  rw[hb']
  cases o with
  |none=>simp[sl,appR,appR.appS,ifR,hb,hy,qbx]
  |some l=>simp[sl,appR,appR.appS,ifR,hb,hy,qbx]
theorem qb6 {z b t:Nat}{f:α→qa}{o2 v:Option (List α)}(hv:apO (some []) (o2.getD [])=some v):appR (z+1) b h (some t) (some (.list false (z+1) [])) (some (sl (z+1) f o2))=ifR (decide (b≤4096)) (some ⟨sl (z+1) f v,true,some t,h⟩):=
 qp9 (o:=some []) hv
end
def qd1 (s:List UInt8):qa:=.str s
@[go_sem] theorem jvc {h0:Nat}{al:Option (List Nat)}{h:zd}{b:List UInt8}:qcp h0 al false 1 h (some (.vptr (qd1 b)))=some ⟨.str b,false,none,h⟩:=rfl
@[go_sem] theorem jp3 {n z:Nat}{l:Option (List (List UInt8))}:below n (sl z qd1 l)=true:=qd8 fun _=>rfl
theorem qdh {b t:Nat}{h:zd}{bb:Bool}{x:Int}{o v:Option (List Int)}(hv:apO o [x]=some v):appR 1 b h (some t) (some (sl 1 zh o)) (some (.list bb 1 [.int .i64 x]))=ifR (decide (b≤4096)) (some ⟨sl 1 zh v,true,some t,h⟩):=qjc (by omega) rfl hv
theorem q8v {b t:Nat}{h:zd}{bb:Bool}{x:List UInt8}{o v:Option (List (List UInt8))}(hv:apO o [x]=some v):appR 1 b h (some t) (some (sl 1 qd1 o)) (some (.list bb 1 [.str x]))=ifR (decide (b≤4096)) (some ⟨sl 1 qd1 v,true,some t,h⟩):=qjc (by omega) rfl hv
theorem qy1 {p:qn}{xc:XC}{k:Nat}{args:List qa}{v v':qa}{o:Bool}{h:zd}(hp:p.prims k=none)(hc:yk p xc k args []=some (v,o,h))(hz:freezeR h v=some v')(hv:below 0 v'=true)(hl:v.isList=true):j7 p xc k args=some (v',o):=by
 rw[qd7 hp hc hz hv,hl,Bool.and_true]
structure qh where
 num:Int
 den:Int
open Classical in
noncomputable def exO {α:Type}(P:Prop)(v:α):Option α:=if P then some v else none
theorem q2x {α:Type}{P:Prop}{v r:α}(h:exO P v=some r):P∧v=r:=by
 unfold exO at h
 split at h
 ·rename_i hp;cases h;exact⟨hp,rfl⟩
 ·cases h
theorem jar {α:Type}{P:Prop}{v:α}(h:P):exO P v=some v:=by unfold exO;rw[if_pos h]
section
variable {p:qn}{xc:XC}{h0:Nat}{al:Option (List Nat)}{e:Env}{h:zd}{α:Type}
def q7t (h0 r sz bytes:Nat)(zero:List qa)(h:zd)(n c:Option qa):Option qm:=match n,c with
 |some (.int .i64 (.ofNat n)),some (.int .i64 (.ofNat c))=>
  bif Nat.beq n c&&Nat.ble n 1073741824&&Nat.ble bytes 4096&&Nat.beq zero.length sz&&Nat.blt 0 sz&&zero.all zj then
   (match newBox h0 h r (.cells (cellsOf (List.replicate n zero).flatten))with
    |some h'=>val h' (.ms (h0+r) 0 n)
    |none=>none)else none
 |_,_=>none
@[go_sem] theorem j4e {r sz b:Nat}{z:List qa}{n c:qf}:j9 p xc h0 al e h (.mkslice (some r) sz b z n c)=q7t h0 r sz b z h (zc e n) (zc e c):=by
 simp only[j9,zr,q7t]
 rfl
def q1j (h0 r sz bytes:Nat)(h:zd)(own:Option Nat)(x y:Option qa):Option qm:=match x,y with
 |some (.list false sz' []),some vy=>
  bif own.isSome&&Nat.beq sz sz' then
   (match qax sz vy with
    |some ys=>
     bif Nat.ble ys.length 1073741824&&Nat.ble bytes 4096&&Nat.blt 0 sz then
      (match newBox h0 h r (.cells (cellsOf (ys.flatMap qa.flat)))with
       |some h'=>some ⟨.ms (h0+r) 0 ys.length,false,own,h'⟩
       |none=>none)
     else none
    |none=>none)
  else none
 |_,_=>none
@[go_sem] theorem jx7 {r sz b:Nat}{x y:qf}:j9 p xc h0 al e h (.append (some r) sz b x y)=q1j h0 r sz b h (kz e x) (zc e x) (zc e y):=by
 simp only[j9,zr,q1j]
 rfl
def q2l (own:Option Nat)(v:qa)(r:Option zd):Option qm:=match r with
 |some h'=>some ⟨v,false,own,h'⟩
 |none=>none
@[go_sem] theorem jpb {own:Option Nat}{v:qa}:q2l own v (some h)=some ⟨v,false,own,h⟩:=rfl
@[go_sem] theorem jpp {z:Nat}{f:α→qa}{o:Option (List α)}:q4i 0 false h (some (sl z f o))=some ⟨.bool o.isNone,false,none,h⟩:=by cases o<;>rfl
theorem qe9 {z b:Nat}{f:α→qa}{x:α}{y:qa}{o v:Option (List α)}(hz:0<z)(hy:qax z y=some [f x])(hn:o.isNone=true)(hv:apO o [x]=some v):appR z b h none (some (sl z f o)) (some y)=ifR (decide (b≤4096)) (some ⟨sl z f v,true,none,h⟩):=by
 cases o with
 |some l=>cases hn
 |none=>
  by_cases hb:b≤4096
  ·rw[qy9 hz hb hy hv (.inl rfl)];simp[ifR,hb]
  ·have hb':decide (b≤4096)=false:=by simp[hb]
   rw[hb']
   simp[sl,appR,appR.appS,ifR,hb,hy,qbx]
theorem qha {b:Nat}{bb:Bool}{x:Int}{o v:Option (List Int)}(hv:apO o [x]=some v)(hn:o.isNone=true):appR 1 b h none (some (sl 1 zh o)) (some (.list bb 1 [.int .i64 x]))=ifR (decide (b≤4096)) (some ⟨sl 1 zh v,true,none,h⟩):=qe9 (by omega) rfl hn hv
attribute [go_sem] Nat.le_refl
end
@[go_sem] theorem j5t {h:zd}{a b c d:Int}:q2a [.int,.int] true h (some (.agg [.int .i64 a,.int .i64 b])) (some (.agg [.int .i64 c,.int .i64 d]))=some ⟨.bool (!(decide (a=c)&&decide (b=d))),false,none,h⟩:=by
 show(match qae [.int,.int] [.int .i64 a,.int .i64 b] [.int .i64 c,.int .i64 d]with|some t=>val h (.bool (bif true then !t else t))|none=>none)=_
 have:qae [.int,.int] [.int .i64 a,.int .i64 b] [.int .i64 c,.int .i64 d]=some (decide (a=c)&&decide (b=d)):=by
  have e:∀x y:Int,(x == y)=decide (x=y):=fun x y=>by by_cases h:x=y<;>simp[h]
  simp only[qae,qbo,e,decide_true,cT]
  by_cases h1:a=c<;>by_cases h2:b=d<;>simp[h1,h2]
 rw[this]
 rfl
variable {h:zd}
theorem q8d {b:Nat}{bb:Bool}{x:List UInt8}{o v:Option (List (List UInt8))}(hv:apO o [x]=some v)(hn:o.isNone=true):appR 1 b h none (some (sl 1 qd1 o)) (some (.list bb 1 [.str x]))=ifR (decide (b≤4096)) (some ⟨sl 1 qd1 v,true,none,h⟩):=qe9 (by omega) rfl hn hv
theorem yp {b pos:Nat}{s:List UInt8}(hp:decide (pos<s.length)=true):qj3 h b (some (.iter s pos))=qbv (yv h b (.iter s (pos+(zk s pos).2))) (.tup [.bool true,.int .i64 pos,.int .i32 (zk s pos).1]):=jc7 (of_decide_eq_true hp)
theorem ja0 {b pos:Nat}{s:List UInt8}(hp:decide (pos<s.length)=false):qj3 h b (some (.iter s pos))=some ⟨.tup [.bool false],false,none,h⟩:=jau (of_decide_eq_false hp)
end Go.Z
