/- Functions in Option that mirror the machine's runs. -/
import Derived.Test.YtnjngdcbkkonnaaGreatDoorL1
set_option linter.unusedVariables false
set_option linter.unusedSimpArgs false
set_option maxRecDepth 100000
namespace Go.Z
open Go Go.Abs
def j5 {α β:Type}(x:Option α)(f:α→Option β):Option β:=match x with
 |some a=>f a
 |none=>none
@[simp] theorem j6 {α β:Type}{a:α}{f:α→Option β}:j5 (some a) f=f a:=rfl
@[simp] theorem j25 {α β:Type}{f:α→Option β}:j5 none f=none:=rfl
theorem j0 {α β:Type}{x:Option α}{f:α→Option β}{r:β}(h:j5 x f=some r):∃a,x=some a∧f a=some r:=by
 cases x with
 |none=>cases h
 |some a=>exact⟨a,rfl,h⟩
theorem j4 {α:Type}{c:Bool}{a b r:α}(h:cond c a b=r):(c=true∧a=r)∨(c=false∧b=r):=by
 cases c
 ·exact .inr ⟨rfl,h⟩
 ·exact .inl ⟨rfl,h⟩
def itF {σ δ:Type}(f:σ→Option (σ⊕δ)):Nat→σ→Option δ
 |0,_=>none
 |n+1,s=>match f s with
  |none=>none
  |some (.inl s')=>itF f n s'
  |some (.inr d)=>some d
theorem q3t {σ δ:Type}{f:σ→Option (σ⊕δ)}{d:δ}:∀ {n:Nat} {s:σ},itF f n s=some d→itF f (n+1) s=some d
 |0,_,h=>by cases h
 |n+1,s,h=>by
  rw[itF]at h ⊢
  cases hf:f s with
  |none=>rw[hf]at h;cases h
  |some x=>
   rw[hf]at h
   cases x with
   |inl s'=>exact q3t h
   |inr d'=>exact h
theorem jaz {σ δ:Type}{f:σ→Option (σ⊕δ)}{d:δ}{n m:Nat}{s:σ}(hm:n≤m)(h:itF f n s=some d):itF f m s=some d:=by
 induction hm with
 |refl=>exact h
 |step _ ih=>exact q3t ih
open Classical in
noncomputable def itO {σ δ:Type}(f:σ→Option (σ⊕δ))(s:σ):Option δ:=
 if h:∃d n,itF f n s=some d then some (Classical.choose h)else none
theorem qug {σ δ:Type}{f:σ→Option (σ⊕δ)}{s:σ}{d:δ}:itO f s=some d↔∃n,itF f n s=some d:=by
 unfold itO
 constructor
 ·intro h
  split at h
  ·rename_i hh;cases h;exact Classical.choose_spec hh
  ·cases h
 ·rintro ⟨n,hn⟩
  have hh:∃d n,itF f n s=some d:=⟨d,n,hn⟩
  rw[dif_pos hh]
  obtain⟨m,hm⟩:=Classical.choose_spec hh
  have h1:=jaz (Nat.le_max_left n m) hn
  have h2:=jaz (Nat.le_max_right n m) hm
  rw[h1]at h2
  exact h2.symm
theorem qbb {σ δ:Type}{f:σ→Option (σ⊕δ)}{s s':σ}(h:f s=some (.inl s')):itO f s=itO f s':=by
 apply Option.ext
 intro d
 rw[qug,qug]
 constructor
 ·rintro ⟨n,hn⟩
  cases n with
  |zero=>cases hn
  |succ n=>rw[itF,h]at hn;exact⟨n,hn⟩
 ·rintro ⟨n,hn⟩
  exact⟨n+1,by rw[itF,h];exact hn⟩
theorem k9 {σ δ:Type}{f:σ→Option (σ⊕δ)}{s:σ}{d:δ}(h:f s=some (.inr d)):itO f s=some d:=
 qug.2 ⟨1,by rw[itF,h]⟩
def yt {σ δ:Type}(p:qo)(c:qe)(St:σ→qd)(Ex:δ→qj×qd)(s:σ)(r:σ⊕δ):Prop:=match r with
 | .inl s'=>∃st',X p c (St s)=some (.normal,st')∧gc (St s).heap.length st'=St s'
 | .inr d=>X p c (St s)=some (Ex d)
theorem qby {σ δ:Type}{p:qo}{c:qe}{St:σ→qd}{Ex:δ→qj×qd}{s s':σ}{st':qd}(hx:X p c (St s)=some (.normal,st'))(hc:gc (St s).heap.length st'=St s'):yt p c St Ex s (.inl s'):=⟨st',hx,hc⟩
theorem zc {σ δ:Type}{p:qo}{c:qe}{St:σ→qd}{Ex:δ→qj×qd}{s:σ}{d:δ}(hx:X p c (St s)=some (Ex d)):yt p c St Ex s (.inr d):=hx
theorem jhc {σ δ:Type}{p:qo}{c:qe}{St:σ→qd}{Ex:δ→qj×qd}{f:σ→Option (σ⊕δ)}(hb:∀s r,f s=some r→yt p c St Ex s r)(hX:∀d,(Ex d).1≠.normal){d:δ}:
  ∀ {n:Nat} {s:σ},itF f n s=some d→X p (.loop c) (St s)=some (Ex d)
 |0,_,h=>by cases h
 |n+1,s,h=>by
  rw[itF]at h
  rw[q6p]
  cases hf:f s with
  |none=>rw[hf]at h;cases h
  |some x=>
   rw[hf]at h
   have hs:=hb s x hf
   cases x with
   |inl s'=>
    obtain⟨st',h1,h2⟩:=hs
    rw[h1,q2w,h2]
    exact jhc hb hX h
   |inr d'=>
    cases h
    rw[show X p c (St s)=some (Ex d)from hs,jbw (hX d)]
theorem kg {σ δ:Type}{p:qo}{c:qe}{St:σ→qd}{Ex:δ→qj×qd}{f:σ→Option (σ⊕δ)}(hb:∀s r,f s=some r→yt p c St Ex s r)(hX:∀d,(Ex d).1≠.normal){s:σ}{d:δ}(h:itO f s=some d):X p (.loop c) (St s)=some (Ex d):=by
 obtain⟨n,hn⟩:=qug.1 h
 exact jhc hb hX hn
section
variable {h0:Nat}{al:Option (List Nat)}{h:ze}{α:Type}
def yo (l:List α)(i:Int):Option α:=if 0≤i then l[i.toNat]? else none
theorem qgl {l:List α}{i:Nat}:yo l (i:Int)=l[i]?:=by simp[yo]
theorem zm {z:Nat}{f:α→qa}{l:Option (List α)}{k:IntKind}{i:Int}{x:α}(hx:yo (l.getD []) i=some x):ql1 z h (some (sl z f l)) (some (.int k i))=some ⟨.vptr (f x),false,none,h⟩:=by
 unfold yo at hx
 by_cases hi:0≤i
 ·rw[if_pos hi]at hx
  obtain⟨n,rfl⟩:∃n:Nat,i=(n:Int):=⟨i.toNat,by omega⟩
  exact jog (by simpa using hx)
 ·rw[if_neg hi]at hx;cases hx
theorem yv {s:List UInt8}{k:IntKind}{i:Int}{c:UInt8}(hx:yo s i=some c):qor h (some (.str s)) (some (.int k i))=some ⟨.int .u8 (c.toNat:Int),false,none,h⟩:=by
 unfold yo at hx
 by_cases hi:0≤i
 ·rw[if_pos hi]at hx
  obtain⟨n,rfl⟩:∃n:Nat,i=(n:Int):=⟨i.toNat,by omega⟩
  exact jcl (by simpa using hx)
 ·rw[if_neg hi]at hx;cases hx
end
section
variable {h:ze}
@[go_sem] theorem jlf {agg:Bool}{len sz n:Nat}{k:IntKind}{cs:List qa}:qm5 agg len sz h (some (.vptr (.agg cs))) (some (.int k (no_index (OfNat.ofNat n:Int))))=ifR (decide ((OfNat.ofNat n:Nat)<len)) (qg2 agg h (Go.Abs.part agg cs ((OfNat.ofNat n:Nat)*sz) sz)):=by
 have e:(OfNat.ofNat n:Int)=(n:Int):=rfl
 have e':(OfNat.ofNat n:Nat)=n:=rfl
 rw[e,e']
 by_cases hn:n<len
 ·simp[qm5,qib,q4b hn,hn,ifR,qg2];rfl
 ·have hi:qs7 len (n:Int)=none:=by unfold qs7;rw[if_neg (by omega)]
  simp[qm5,qib,hi,hn,ifR]
end
def qfc (k:IntKind)(x y:Int):Option Int:=if y=0 then none else some (j9 k (x.tdiv y))
def qh8 (x y:Int):Option Int:=if y=0 then none else some (x.tmod y)
theorem qck {k:IntKind}{x y v:Int}(h:qfc k x y=some v):ky .quo (.int k x) (.int k y)=some (.int k v):=by
 unfold qfc at h
 by_cases hy:y=0
 ·rw[if_pos hy]at h;cases h
 ·rw[if_neg hy]at h;cases h
  have:(y == 0)=false:=by simp[hy]
  simp[ky,qcx,this]
theorem qoi {k:IntKind}{x y v:Int}(h:qh8 x y=some v):ky .rem (.int k x) (.int k y)=some (.int k v):=by
 unfold qh8 at h
 by_cases hy:y=0
 ·rw[if_pos hy]at h;cases h
 ·rw[if_neg hy]at h;cases h
  have:(y == 0)=false:=by simp[hy]
  simp[ky,qcx,this]
def shO (op:BinOp)(k:IntKind)(x y:Int):Option Int:=match qgm op k x y with
 |some (.int _ v)=>some v
 |_=>none
abbrev qtc:=shO .shr
theorem qob {k:IntKind}{k':IntKind}{x y v:Int}(h:qtc k x y=some v):ky .shr (.int k x) (.int k' y)=some (.int k v):=by
 simp only[qtc,shO,qgm]at h
 simp only[ky,qgm]
 cases hy:decide (y<0)with
 |true=>rw[hy]at h;cases h
 |false=>rw[hy]at h;simp only[cF]at h ⊢;cases h;rfl
def qqw (op:BinOp)(k:IntKind)(x y:Int):Int:=match qcx op k x y with
 |some (.int _ v)=>v
 |_=>0
@[go_sem] theorem j57 {k:IntKind}{x y:Int}:ky .and (.int k x) (.int k y)=some (.int k (qqw .and k x y)):=by simp[ky,qcx,qqw]
def jfu (a b:List UInt8):Option (List UInt8):=if a.length+b.length≤4611686018427387904 then some (a++b)else none
theorem jky {a b v:List UInt8}(h:jfu a b=some v):ky .add (.str a) (.str b)=some (.str v):=by
 unfold jfu at h
 by_cases hl:a.length+b.length≤4611686018427387904
 ·rw[if_pos hl]at h;cases h
  simp only[ky,qn8,qb0,hl,decide_true,cT]
 ·rw[if_neg hl]at h;cases h
section
variable {p:qo}{xc:XC}{h0:Nat}{al:Option (List Nat)}{e:Env}{h:ze}
def q81 (k:IntKind)(h:ze)(x:Option qa):Option qn:=match x with
 |some (.int _ n)=>val h (.int k (j9 k n))
 |_=>none
@[go_sem] theorem jza {k k':IntKind}{n:Int}:q81 k h (some (.int k' n))=some ⟨.int k (j9 k n),false,none,h⟩:=rfl
@[go_sem] theorem j5j {k:IntKind}{x:qf}:j8 p xc h0 al e h (.conv k x)=q81 k h (zf e x):=by
 simp only[j8,zj,q81]
 cases zf e x with
 |none=>rfl
 |some v=>cases v<;>rfl
def q3o (h:ze)(x:Option qa):Option qn:=match x with
 |some (.str s)=>val h (.str s)
 |some (.int _ n)=>val h (.str (Utf8.encode n).data.toList)
 |_=>none
@[go_sem] theorem jo3 {k:IntKind}{n:Int}:q3o h (some (.int k n))=some ⟨.str (Utf8.encode n).data.toList,false,none,h⟩:=rfl
@[go_sem] theorem jls {s:List UInt8}:q3o h (some (.str s))=some ⟨.str s,false,none,h⟩:=rfl
def qi4 (h:ze)(x:Option qa):Option qn:=match x with
 |some (.ptr b o)=>val h (.ptr b o)
 |some (.vptr v)=>val h (.vptr v)
 |some (.fn (.func f) a b)=>val h (.fn (.func f) a b)
 |_=>none
@[go_sem] theorem jl0 {b o:Nat}:qi4 h (some (.ptr b o))=some ⟨.ptr b o,false,none,h⟩:=rfl
@[go_sem] theorem jk3 {v:qa}:qi4 h (some (.vptr v))=some ⟨.vptr v,false,none,h⟩:=rfl
@[go_sem] theorem jp8 {f:Nat}{a b:List qa}:qi4 h (some (.fn (.func f) a b))=some ⟨.fn (.func f) a b,false,none,h⟩:=rfl
@[go_sem] theorem juk {x:qf}:j8 p xc h0 al e h (.nilCheck x)=qi4 h (zf e x):=by
 simp only[j8,zj,qi4];rfl
def jl2 (agg:Bool)(off n:Nat)(h:ze)(x:Option qa):Option qn:=match x with
 |some (.agg cs)=>qcj h (Go.Abs.part agg cs off n)
 |_=>none
@[go_sem] theorem jr4 {agg:Bool}{off n:Nat}{cs:List qa}:jl2 agg off n h (some (.agg cs))=qcj h (Go.Abs.part agg cs off n):=rfl
def j5s (agg:Bool)(len n:Nat)(h:ze)(x i:Option qa):Option qn:=match x,i with
 |some (.agg cs),some j=>(match idx len j with
  |some j=>qcj h (Go.Abs.part agg cs (j*n) n)
  |none=>none)
 |_,_=>none
end
section
variable {p:qo}{xc:XC}{h0:Nat}{al:Option (List Nat)}{e:Env}{h:ze}{α:Type}
def qil (n dflt:Nat):Option Int→Option Nat
 |none=>some dflt
 |some i=>if 0≤i∧i≤n then some i.toNat else none
def q4t (s:List α)(lo hi:Option Int):Option (List α):=match qil s.length s.length hi with
 |some j=>(match qil j 0 lo with
  |some i=>some ((s.take j).drop i)
  |none=>none)
 |none=>none
def qkf (o:Option (List α))(lo hi:Option Int):Option (Option (List α)):=match q4t (o.getD []) lo hi with
 |some l=>some (o.map fun _=>l)
 |none=>none
def qvw (dflt n:Nat):Option (Option qa)→Option Nat
 |none=>some dflt
 |some (some v)=>quj n v
 |some none=>none
theorem jsw {dflt n:Nat}{x:Option qf}:bnd e dflt n x=qvw dflt n (x.map (zf e)):=by
 cases x with
 |none=>rfl
 |some x=>simp only[bnd,Option.map_some,qvw];cases zf e x<;>rfl
theorem jks {n d:Nat}{k:IntKind}{i:Int}:quj n (.int k i)=qil n d (some i):=by
 unfold quj qil
 cases i with
 |ofNat m=>
  simp only[]
  by_cases hm:m≤n
  ·rw[if_pos ⟨by simp,by simpa using hm⟩,Nat.ble_eq_true_of_le hm];rfl
  ·rw[if_neg (by simp;omega)]
   cases hb:Nat.ble m n with
   |true=>exact absurd (Nat.le_of_ble_eq_true hb) hm
   |false=>rfl
 |negSucc m=>simp
def jgl (k:IntKind):Option Int→Option (Option qa)
 |none=>none
 |some i=>some (some (.int k i))
theorem jbf {d n:Nat}{k:IntKind}{x:Option Int}:qvw d n (jgl k x)=qil n d x:=by
 cases x with
 |none=>rfl
 |some i=>exact jks
def qvl (sz:Nat)(h:ze)(x:Option qa)(lo hi:Option (Option qa)):Option qn:=match x with
 |some (.list n sz' xs)=>bif Nat.beq sz sz'||xs.isEmpty then(match qvw xs.length xs.length hi with
  |some j=>(match qvw 0 j lo with
   |some i=>val h (.list n sz' ((xs.take j).drop i))
   |none=>none)
  |none=>none)else none
 |some (.ms b o len)=>(match qvw len len hi with
  |some j=>(match qvw 0 j lo with
   |some i=>bif Nat.beq i 0||Nat.blt i j then val h (.ms b (o+i*sz) (j-i))else none
   |none=>none)
  |none=>none)
 |_=>none
attribute [go_sem] Option.map_some Option.map_none
@[go_sem] theorem j49 {sz:Nat}{x:qf}{lo hi:Option qf}:j8 p xc h0 al e h (.slice sz x lo hi)=qvl sz h (zf e x) (lo.map (zf e)) (hi.map (zf e)):=by
 simp only[j8,zj,qvl,jsw]
 cases zf e x with
 |none=>rfl
 |some v=>cases v<;>rfl
theorem jhh {z:Nat}{k k':IntKind}{f:α→qa}{o v:Option (List α)}{lo hi:Option Int}(hv:qkf o lo hi=some v):qvl z h (some (sl z f o)) (jgl k lo) (jgl k' hi)=some ⟨sl z f v,false,none,h⟩:=by
 unfold qkf q4t at hv
 cases o with
 |none=>
  simp only[sl,qvl,List.isEmpty_nil,Bool.or_true,cT,jbf]
  simp only[Option.getD_none]at hv
  cases h1:qil ([]:List α).length ([]:List α).length hi with
  |none=>rw[h1]at hv;cases hv
  |some j=>
   rw[h1]at hv
   simp only[]at hv
   cases h2:qil j 0 lo with
   |none=>rw[h2]at hv;cases hv
   |some i=>
    rw[h2]at hv
    cases hv
    simp only[List.length_nil]at h1
    simp only[List.length_nil,h1,h2,List.take_nil,List.drop_nil]
    rfl
 |some l=>
  simp only[sl,qvl,qle,decide_true,Bool.true_or,cT,jbf,List.length_map]
  simp only[Option.getD_some]at hv
  cases h1:qil l.length l.length hi with
  |none=>rw[h1]at hv;cases hv
  |some j=>
   rw[h1]at hv
   simp only[]at hv
   cases h2:qil j 0 lo with
   |none=>rw[h2]at hv;cases hv
   |some i=>
    rw[h2]at hv
    cases hv
    simp only[h2,val,Option.map_some,List.map_drop,List.map_take]
theorem q5g {z:Nat}{k k':IntKind}{f:α→qa}{o v:Option (List α)}{lo hi:Int}(hv:qkf o (some lo) (some hi)=some v):qvl z h (some (sl z f o)) (some (some (.int k lo))) (some (some (.int k' hi)))=some ⟨sl z f v,false,none,h⟩:=jhh hv
theorem q6y {z:Nat}{k:IntKind}{f:α→qa}{o v:Option (List α)}{lo:Int}(hv:qkf o (some lo) none=some v):qvl z h (some (sl z f o)) (some (some (.int k lo))) none=some ⟨sl z f v,false,none,h⟩:=jhh (k':=k) hv
end
section
variable {h:ze}{α:Type}
def apS (o:Option (List α))(ys:List α):Option (List α):=match o,ys with
 |none,[]=>none
 |o,ys=>some (o.getD []++ys)
def apO (o:Option (List α))(ys:List α):Option (Option (List α)):=if(o.getD []).length+ys.length≤1073741824 then some (apS o ys)else none
theorem qz8 {z b:Nat}{own:Option Nat}{f:α→qa}{o:Option (List α)}{ys:List α}{v:Option (List α)}{y:qa}(hz:0<z)(hb:b≤4096)(hy:qay z y=some (ys.map f))(hv:apO o ys=some v)
  (ho:o=none∨own.isSome=true):appR z b h own (some (sl z f o)) (some y)=some ⟨sl z f v,true,own,h⟩:=by
 unfold apO at hv
 by_cases hl:(o.getD []).length+ys.length≤1073741824
 ·rw[if_pos hl]at hv;cases hv
  cases o with
  |none=>
   simp only[sl,appR,appR.appS,hy,ifR,Bool.true_or,List.isEmpty_nil,Bool.and_true,Bool.or_true,List.length_nil,List.length_map,qb0,qdj,hz,hb,decide_true]
   simp only[Option.getD_none,List.length_nil]at hl
   simp only[hl,decide_true,Bool.and_self,Bool.or_true]
   cases ys with
   |nil=>rfl
   |cons y ys=>simp[qg8,apS,sl]
  |some l=>
   have ho':own.isSome=true:=by rcases ho with h|h;cases h;exact h
   simp only[sl,appR,appR.appS,hy,ifR,ho',Bool.or_true,qle,qb0,qdj,hz,hb,decide_true,Bool.true_or,List.length_map]
   simp only[Option.getD_some]at hl
   simp only[hl,decide_true,Bool.and_self]
   simp[qg8,apS,sl]
 ·rw[if_neg hl]at hv;cases hv
theorem qvz {z b t:Nat}{f:α→qa}{o o2 v:Option (List α)}(hv:apO o (o2.getD [])=some v):appR (z+1) b h (some t) (some (sl (z+1) f o)) (some (sl (z+1) f o2))=ifR (decide (b≤4096)) (some ⟨sl (z+1) f v,true,some t,h⟩):=by
 by_cases hb:b≤4096
 ·rw[qz8 (by omega) hb jc3 hv (.inr rfl)];simp[ifR,hb]
 ·have hb':decide (b≤4096)=false:=by simp[hb]
  rw[hb']
  cases o with
  |none=>simp[sl,appR,appR.appS,ifR,hb,qb0];split<;>rfl
  |some l=>simp[sl,appR,appR.appS,ifR,hb,qb0];split<;>rfl
theorem qpp {z b t:Nat}{f:α→qa}{x:α}{y:qa}{o v:Option (List α)}(hz:0<z)(hy:qay z y=some [f x])(hv:apO o [x]=some v):appR z b h (some t) (some (sl z f o)) (some y)=ifR (decide (b≤4096)) (some ⟨sl z f v,true,some t,h⟩):=by
 by_cases hb:b≤4096
 ·rw[qz8 hz hb hy hv (.inr rfl)];simp[ifR,hb]
 ·have hb':decide (b≤4096)=false:=by simp[hb]
  rw[hb']
  cases o with
  |none=>simp[sl,appR,appR.appS,ifR,hb,hy,qb0]
  |some l=>simp[sl,appR,appR.appS,ifR,hb,hy,qb0]
theorem qrz {z b t:Nat}{f:α→qa}{o2 v:Option (List α)}(hv:apO (some []) (o2.getD [])=some v):appR (z+1) b h (some t) (some (.list false (z+1) [])) (some (sl (z+1) f o2))=ifR (decide (b≤4096)) (some ⟨sl (z+1) f v,true,some t,h⟩):=
 qvz (o:=some []) hv
end
def qdz (s:List UInt8):qa:=.str s
@[go_sem] theorem jws {h0:Nat}{al:Option (List Nat)}{h:ze}{b:List UInt8}:qc0 h0 al false 1 h (some (.vptr (qdz b)))=some ⟨.str b,false,none,h⟩:=rfl
@[go_sem] theorem ju2 {n z:Nat}{l:Option (List (List UInt8))}:below n (sl z qdz l)=true:=qgn fun _=>rfl
theorem qfz {b t:Nat}{h:ze}{bb:Bool}{x:Int}{o v:Option (List Int)}(hv:apO o [x]=some v):appR 1 b h (some t) (some (sl 1 zg o)) (some (.list bb 1 [.int .i64 x]))=ifR (decide (b≤4096)) (some ⟨sl 1 zg v,true,some t,h⟩):=qpp (by omega) rfl hv
theorem q8m {b t:Nat}{h:ze}{bb:Bool}{x:List UInt8}{o v:Option (List (List UInt8))}(hv:apO o [x]=some v):appR 1 b h (some t) (some (sl 1 qdz o)) (some (.list bb 1 [.str x]))=ifR (decide (b≤4096)) (some ⟨sl 1 qdz v,true,some t,h⟩):=qpp (by omega) rfl hv
theorem qy1 {p:qo}{xc:XC}{k:Nat}{args:List qa}{v v':qa}{o:Bool}{h:ze}(hp:p.prims k=none)(hc:ye p xc k args []=some (v,o,h))(hz:freezeR h v=some v')(hv:below 0 v'=true)(hl:v.isList=true):zb p xc k args=some (v',o):=by
 rw[qed hp hc hz hv,hl,Bool.and_true]
structure qh where
 num:Int
 den:Int
open Classical in
noncomputable def exO {α:Type}(P:Prop)(v:α):Option α:=if P then some v else none
theorem q3v {α:Type}{P:Prop}{v r:α}(h:exO P v=some r):P∧v=r:=by
 unfold exO at h
 split at h
 ·rename_i hp;cases h;exact⟨hp,rfl⟩
 ·cases h
theorem jav {α:Type}{P:Prop}{v:α}(h:P):exO P v=some v:=by unfold exO;rw[if_pos h]
section
variable {p:qo}{xc:XC}{h0:Nat}{al:Option (List Nat)}{e:Env}{h:ze}{α:Type}
def q92 (h0 r sz bytes:Nat)(zero:List qa)(h:ze)(n c:Option qa):Option qn:=match n,c with
 |some (.int .i64 (.ofNat n)),some (.int .i64 (.ofNat c))=>
  bif Nat.beq n c&&Nat.ble n 1073741824&&Nat.ble bytes 4096&&Nat.beq zero.length sz&&Nat.blt 0 sz&&zero.all zh then
   (match newBox h0 h r (.cells (cellsOf (List.replicate n zero).flatten))with
    |some h'=>val h' (.ms (h0+r) 0 n)
    |none=>none)else none
 |_,_=>none
@[go_sem] theorem j4x {r sz b:Nat}{z:List qa}{n c:qf}:j8 p xc h0 al e h (.mkslice (some r) sz b z n c)=q92 h0 r sz b z h (zf e n) (zf e c):=by
 simp only[j8,zp,q92]
 rfl
def q16 (h0 r sz bytes:Nat)(h:ze)(own:Option Nat)(x y:Option qa):Option qn:=match x,y with
 |some (.list false sz' []),some vy=>
  bif own.isSome&&Nat.beq sz sz' then
   (match qay sz vy with
    |some ys=>
     bif Nat.ble ys.length 1073741824&&Nat.ble bytes 4096&&Nat.blt 0 sz then
      (match newBox h0 h r (.cells (cellsOf (ys.flatMap qa.flat)))with
       |some h'=>some ⟨.ms (h0+r) 0 ys.length,false,own,h'⟩
       |none=>none)
     else none
    |none=>none)
  else none
 |_,_=>none
@[go_sem] theorem jy8 {r sz b:Nat}{x y:qf}:j8 p xc h0 al e h (.append (some r) sz b x y)=q16 h0 r sz b h (kw e x) (zf e x) (zf e y):=by
 simp only[j8,zp,q16]
 rfl
def q41 (own:Option Nat)(v:qa)(r:Option ze):Option qn:=match r with
 |some h'=>some ⟨v,false,own,h'⟩
 |none=>none
@[go_sem] theorem jp1 {own:Option Nat}{v:qa}:q41 own v (some h)=some ⟨v,false,own,h⟩:=rfl
@[go_sem] theorem jsc {z:Nat}{f:α→qa}{o:Option (List α)}:q4g 0 false h (some (sl z f o))=some ⟨.bool o.isNone,false,none,h⟩:=by cases o<;>rfl
theorem qik {z b:Nat}{f:α→qa}{x:α}{y:qa}{o v:Option (List α)}(hz:0<z)(hy:qay z y=some [f x])(hn:o.isNone=true)(hv:apO o [x]=some v):appR z b h none (some (sl z f o)) (some y)=ifR (decide (b≤4096)) (some ⟨sl z f v,true,none,h⟩):=by
 cases o with
 |some l=>cases hn
 |none=>
  by_cases hb:b≤4096
  ·rw[qz8 hz hb hy hv (.inl rfl)];simp[ifR,hb]
  ·have hb':decide (b≤4096)=false:=by simp[hb]
   rw[hb']
   simp[sl,appR,appR.appS,ifR,hb,hy,qb0]
theorem qfy {b:Nat}{bb:Bool}{x:Int}{o v:Option (List Int)}(hv:apO o [x]=some v)(hn:o.isNone=true):appR 1 b h none (some (sl 1 zg o)) (some (.list bb 1 [.int .i64 x]))=ifR (decide (b≤4096)) (some ⟨sl 1 zg v,true,none,h⟩):=qik (by omega) rfl hn hv
attribute [go_sem] Nat.le_refl
end
@[go_sem] theorem j56 {h:ze}{a b c d:Int}:q4v [.int,.int] true h (some (.agg [.int .i64 a,.int .i64 b])) (some (.agg [.int .i64 c,.int .i64 d]))=some ⟨.bool (!(decide (a=c)&&decide (b=d))),false,none,h⟩:=by
 show(match qaf [.int,.int] [.int .i64 a,.int .i64 b] [.int .i64 c,.int .i64 d]with|some t=>val h (.bool (bif true then !t else t))|none=>none)=_
 have:qaf [.int,.int] [.int .i64 a,.int .i64 b] [.int .i64 c,.int .i64 d]=some (decide (a=c)&&decide (b=d)):=by
  have e:∀x y:Int,(x == y)=decide (x=y):=fun x y=>by by_cases h:x=y<;>simp[h]
  simp only[qaf,qbt,e,decide_true,cT]
  by_cases h1:a=c<;>by_cases h2:b=d<;>simp[h1,h2]
 rw[this]
 rfl
variable {h:ze}
theorem q78 {b:Nat}{bb:Bool}{x:List UInt8}{o v:Option (List (List UInt8))}(hv:apO o [x]=some v)(hn:o.isNone=true):appR 1 b h none (some (sl 1 qdz o)) (some (.list bb 1 [.str x]))=ifR (decide (b≤4096)) (some ⟨sl 1 qdz v,true,none,h⟩):=qik (by omega) rfl hn hv
theorem yp {b pos:Nat}{s:List UInt8}(hp:decide (pos<s.length)=true):qj7 h b (some (.iter s pos))=qbx (yu h b (.iter s (pos+(zi s pos).2))) (.tup [.bool true,.int .i64 pos,.int .i32 (zi s pos).1]):=jee (of_decide_eq_true hp)
theorem jc4 {b pos:Nat}{s:List UInt8}(hp:decide (pos<s.length)=false):qj7 h b (some (.iter s pos))=some ⟨.tup [.bool false],false,none,h⟩:=jax (of_decide_eq_false hp)
end Go.Z
