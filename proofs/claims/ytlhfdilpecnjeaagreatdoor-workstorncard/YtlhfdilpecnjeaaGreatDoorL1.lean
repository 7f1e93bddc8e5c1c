/- What the line's functions compute, and the small functions of the checks. -/
import Derived.Test.YtlhfdilpecnjeaaGreatDoorZM
import Derived.Test.YtlhfdilpecnjeaaGreatDoorAbsL
set_option linter.unusedVariables false
set_option linter.unusedSimpArgs false
set_option maxRecDepth 100000
noncomputable section
open Option renaming some->E6,none->Ha,isSome_iff_exists->H3,getD_none->Ij,getD_some->Ik,map_some->Il
open Bool renaming false->Hb,true->Hc,or_true->Ia,true_or->If,and_true->Io,and_self->Ip
open List renaming getElem?_eq_some_iff->H2,length_nil->H4,getElem?_eq_getElem->H9,length_map->Ib,isEmpty_nil->Ig
open Nat renaming beq->H8,ble->Ic
namespace Go.Z
open Go Go.Abs
theorem rF {α:Type}{l:List α}{i:Nat}{x:α}(M:l[i]?=E6 x):l.drop i=x::l.drop (i+1):=by
 obtain⟨Y,I⟩:=H2.1 M;rw[List.drop_eq_getElem_cons Y,I]
theorem jiy {i:Nat}{n:Nat}(h:i<n)(hn:n<=9223372036854775807):qd .i64 ((i:Int)+1)=((i+1:Nat):Int):=by
 rw[N7 (by omega) (by omega)];rfl
structure OQ where
 lS:aj
 values:ak Int
def WB (u:OQ):AVal:=.agg [.str u.lS,sl 1 jt u.values]
@[go_sem] theorem j5i {u:OQ}:(WB u).flat=[.str u.lS,sl 1 jt u.values]:=rfl
def acc {α:Type}(z:Nat)(f:α->AVal)(l:List α):AVal:=match l with
 | []=>.list Hc 0 []|a::l=>.list Hb z ((a::l).map f)
def fS {α:Type}(l:List α):Bool:=!l.isEmpty
def jh {α:Type}(l:List α):Option (List α):=match l with
 | []=>Ha|a::l=>E6 (a::l)
@[go_sem] theorem zk9 {α:Type}{z:Nat}{f:α->AVal}:acc z f []=.list Hc 0 []:=rfl
@[go_sem] theorem zcn {α:Type}:fS (α:=α) []=Hb:=rfl
theorem wQ {α:Type}(l:List α)(x:α):fS (l++[x])=Hc:=by cases l<;>rfl
@[go_sem] theorem jx9 {n:Nat}:mF n []=Hc:=rfl
@[go_sem] theorem jvt {n t:Nat}{v:AVal}{o:Bool}{e:Env}:mF n ((t,v,o)::e)=(below n v&&mF n e):=rfl
@[go_sem] theorem j3n {h0:Nat}{al:ak Nat}{h:qf}{u:OQ}:gT h0 al Hc 2 h (E6 (.aq (WB u)))=E6 ⟨.agg [.str u.lS,sl 1 jt u.values],Hb,Ha,h⟩:=rfl
def qB (i:Nat)(x:Int):Bool:=decide (65<=x/\x<=90)||decide (97<=x/\x<=122)||(decide (i≠0)&&(decide (48<=x/\x<=57)||decide (x=95)))
theorem kinds (x:Int):x<=47\/(48<=x/\x<=57)\/(58<=x/\x<=64)\/(65<=x/\x<=90)\/(91<=x/\x<=94)\/x=95\/x=96\/(97<=x/\x<=122)\/123<=x:=by omega
def vz (i:Nat):aj->Bool
 | []=>Hc|c::s=>qB i c.toNat&&vz (i+1) s
def cj (s:aj):Bool:=decide (s≠[])&&decide (s.length<=24)&&vz 0 s
@[go_sem] theorem jqv {v:AVal}:qy 0 v []=[]:=rfl
@[go_sem] theorem jpo {h:qf}{u:OQ}:F0 Hb 0 1 h (E6 (.aq (WB u)))=E6 ⟨.aq (.str u.lS),Hb,Ha,h⟩:=rfl
@[go_sem] theorem zlz {n:Nat}{v:AVal}{h:qf}:qy n v h=bif Ic h.length n then h else bif below n v&&qr n (h.take n)then h.take n else h:=rfl
@[go_sem] theorem jvz {n:Nat}:qr n []=Hc:=rfl
@[go_sem] theorem jtk {n:Nat}{b:aK}{h:qf}:qr n (b::h)=(zn n b&&qr n h):=rfl
@[go_sem] theorem jsk {n:Nat}{cs:List (AVal×Bool)}:zn n (.cells cs)=zw n cs:=rfl
@[go_sem] theorem jr5 {n:Nat}:zw n []=Hc:=rfl
@[go_sem] theorem jrh {n:Nat}{v:AVal}{o:Bool}{cs:List (AVal×Bool)}:zw n ((v,o)::cs)=(below n v&&zw n cs):=rfl
def xf (h0:Nat)(al:ak Nat)(sz:Nat)(h:qf)(x y:Option AVal):Option bu:=match x,y with
  |some (.ms b o len),E6 vy=>bif zf h0 al b then(match qw h b with
   |some cs=>(match AA sz len vy with
    |some (n,vs)=>(match jw cs o vs with
     |some eF=>bif H8 vs.length (n*sz)then(match j0 h b (.cells eF)with
      |some h'=>val h' (.int .i64 n)
      |none=>Ha)else Ha
     |none=>Ha)
    |none=>Ha)
   |none=>Ha)else Ha
  |_,_=>Ha
@[go_sem] theorem zlv {p:j8}{xc:XC}{h0:Nat}{al:ak Nat}{e:Env}{h:qf}{sz:Nat}{x y:ju}:qe p xc h0 al e h (.copy sz x y)=xf h0 al sz h (qh e x) (qh e y):=rfl
@[go_sem] theorem zmq {k:IntKind}{x:Int}:xG .neg (.int k x)=E6 (.int k (qd k (0-x))):=rfl
def VO (ks:List Kd)(neq:Bool)(h:qf)(x y:Option AVal):Option bu:=match x,y with
  |some (.agg a),E6 (.agg b)=>bif H8 a.length ks.length&&H8 b.length ks.length then(match y9 ks a b with
   |some t=>val h (.bool (bif neq then !t else t))
   |none=>Ha)else Ha
  |_,_=>Ha
@[go_sem] theorem zmh {p:j8}{xc:XC}{h0:Nat}{al:ak Nat}{e:Env}{h:qf}{ks:List Kd}{neq:Bool}{x y:ju}:qe p xc h0 al e h (.eqs ks neq x y)=VO ks neq h (qh e x) (qh e y):=rfl
def conv (f g:Nat->Nat):Nat->Nat
 |0=>f 0*g 0
 |s+1=>f 0*g (s+1)+conv (fun k=>f (k+1)) g s
def j6m (b:Bool):AVal:=.bool b
@[go_sem] theorem j3y {h0:Nat}{al:ak Nat}{h:qf}{b:Bool}:gT h0 al Hb 1 h (E6 (.aq (j6m b)))=E6 ⟨.bool b,Hb,Ha,h⟩:=rfl
def qa {α β:Type}(x:Option α)(f:α->Option β):Option β:=match x with
 |some a=>f a|none=>Ha
@[simp] theorem qi {α β:Type}{a:α}{f:α->Option β}:qa (E6 a) f=f a:=rfl
@[simp] theorem zd1 {α β:Type}{f:α->Option β}:qa Ha f=Ha:=rfl
theorem qb {α β:Type}{x:Option α}{f:α->Option β}{r:β}(h:qa x f=E6 r):∃a,x=E6 a/\f a=E6 r:=by
 cases x with
 |none=>cases h|some a=>exact⟨a,rfl,h⟩
theorem qc {α:Type}{c:Bool}{a b r:α}(h:cond c a b=r):(c=Hc/\a=r)\/(c=Hb/\b=r):=by
 cases c
 .exact .inr ⟨rfl,h⟩
 .exact .inl ⟨rfl,h⟩
def oq {σ δ:Type}(f:σ->Option (σ⊕δ)):Nat->σ->Option δ
 |0,_=>Ha
 |n+1,s=>match f s with
  |none=>Ha|some (.inl s')=>oq f n s'|some (.inr d)=>E6 d
theorem q94 {σ δ:Type}{f:σ->Option (σ⊕δ)}{d:δ}:∀ {n:Nat} {s:σ},oq f n s=E6 d->oq f (n+1) s=E6 d
 |0,_,h=>by cases h
 |n+1,s,h=>by
  rw[oq]at h ⊢
  cases hf:f s with
  |none=>rw[hf]at h;cases h
  |some x=>
   rw[hf]at h
   cases x with
   |inl s'=>exact q94 h|inr d'=>exact h
theorem jg3 {σ δ:Type}{f:σ->Option (σ⊕δ)}{d:δ}{n m:Nat}{s:σ}(hm:n<=m)(h:oq f n s=E6 d):oq f m s=E6 d:=by
 induction hm with
 |refl=>exact h|step _ ih=>exact q94 ih
open Classical in
def bq {σ δ:Type}(f:σ->Option (σ⊕δ))(s:σ):Option δ:=
 if h:∃d n,oq f n s=E6 d then E6 (Classical.choose h)else Ha
theorem Gq {σ δ:Type}{f:σ->Option (σ⊕δ)}{s:σ}{d:δ}:bq f s=E6 d↔∃n,oq f n s=E6 d:=by
 unfold bq;constructor
 .intro h;split at h
  .rename_i hh;cases h;exact Classical.choose_spec hh
  .cases h
 .rintro ⟨n,hn⟩;have hh:∃d n,oq f n s=E6 d:=⟨d,n,hn⟩;rw[dif_pos hh];obtain⟨m,hm⟩:=Classical.choose_spec hh;have Y:=jg3 (Nat.le_max_left n m) hn;have I:=jg3 (Nat.le_max_right n m) hm;rw[Y]at I;exact I.symm
theorem km {σ δ:Type}{f:σ->Option (σ⊕δ)}{s s':σ}(h:f s=E6 (.inl s')):bq f s=bq f s':=by
 apply Option.ext;intro d;rw[Gq,Gq];constructor
 .rintro ⟨n,hn⟩
  cases n with
  |zero=>cases hn|succ n=>rw[oq,h]at hn;exact⟨n,hn⟩
 .rintro ⟨n,hn⟩;exact⟨n+1,by rw[oq,h];exact hn⟩
theorem zj {σ δ:Type}{f:σ->Option (σ⊕δ)}{s:σ}{d:δ}(h:f s=E6 (.inr d)):bq f s=E6 d:=
 Gq.2 ⟨1,by rw[oq,h]⟩
theorem jbt {α γ σ δ ε:Type}(l:List α)(f:σ->Option (σ⊕δ))(mk:Nat->γ->σ)(g:Nat->γ->α->γ⊕ε)(En:γ->δ)(Ex:ε->δ)(Inv:Nat->γ->Prop)
  (da:∀s,Inv l.length s->f (mk l.length s)=E6 (.inr (En s)))
  (cn:∀i s x,l[i]?=E6 x->i<l.length->Inv i s->match g i s x with
   | .inl s'=>Inv (i+1) s'/\f (mk i s)=E6 (.inl (mk (i+1) s'))
   | .inr d=>f (mk i s)=E6 (.inr (Ex d))):
  ∀(k i:Nat) (s:γ),i+k=l.length->Inv i s->bq f (mk i s)=E6 (match F1 g i s (l.drop i)with
   | .inl s=>En s
   | .inr d=>Ex d)
 |0,i,s,hi,hv=>by
  have gg:i=l.length:=by omega
  subst gg;rw[List.drop_eq_nil_of_le (Nat.le_refl _),zj (da s hv)];rfl
 |k+1,i,s,hi,hv=>by
  obtain⟨x,M⟩:∃x,l[i]?=E6 x:=⟨_,H9 (by omega)⟩;have G:=cn i s x M (by omega) hv;rw[rF M];simp only[F1]
  cases hg:g i s x with
  |inl s'=>
   rw[hg]at G;obtain⟨wE,Y⟩:=G;rw[km Y];exact jbt l f mk g En Ex Inv da cn k (i+1) s' (by omega) wE
  |inr d=>
   rw[hg]at G;rw[zj G]
theorem q6m {α γ σ δ ε:Type}(l:List α)(f:σ->Option (σ⊕δ))(mk:Nat->γ->σ)(g:Nat->γ->α->γ⊕ε)(En:γ->δ)(Ex:ε->δ)(Inv:Nat->γ->Prop)(s:γ)
  (da:∀s,Inv l.length s->f (mk l.length s)=E6 (.inr (En s)))
  (cn:∀i s x,l[i]?=E6 x->i<l.length->Inv i s->match g i s x with
   | .inl s'=>Inv (i+1) s'/\f (mk i s)=E6 (.inl (mk (i+1) s'))
   | .inr d=>f (mk i s)=E6 (.inr (Ex d))) (hv:Inv 0 s):
  bq f (mk 0 s)=E6 (match F1 g 0 s l with
   | .inl s=>En s
   | .inr d=>Ex d):=by
 have:=jbt l f mk g En Ex Inv da cn l.length 0 s (by omega) hv;rwa [List.drop_zero]at this
theorem Wz {α ε:Type}(l:List α)(f:Int->Option (Int⊕(ε⊕Int)))(P:Nat->α->Prop)
  (da:f (l.length:Int)=E6 (.inr (.inr (l.length:Int))))
  (cn:∀(i:Nat) (x:α),l[i]?=E6 x->(f (i:Int)=E6 (.inl ((i+1:Nat):Int))/\P i x)\/∃e,f (i:Int)=E6 (.inr (.inl e))):
  (∃e,bq f 0=E6 (.inl e))\/(bq f 0=E6 (.inr (l.length:Int))/\∀(i:Nat) (x:α),l[i]?=E6 x->P i x):=by
 have key:∀(k i:Nat),i+k=l.length->(∀(j:Nat) (x:α),j<i->l[j]?=E6 x->P j x) ->
   (∃e,bq f (i:Int)=E6 (.inl e))\/(bq f (i:Int)=E6 (.inr (l.length:Int))/\∀(i:Nat) (x:α),l[i]?=E6 x->P i x):=by
  intro k
  induction k with
  |zero=>
   intro i hi hp
   have:i=l.length:=by omega
   subst this;exact .inr ⟨zj da,fun j x M=>hp j x (H2.1 M).1 M⟩
  |succ k ih=>
   intro i hi hp;obtain⟨x,M⟩:∃x,l[i]?=E6 x:=⟨_,H9 (by omega)⟩;rcases cn i x M with⟨Y,I⟩|⟨e,Y⟩
   .rw[km Y];refine ih (i+1) (by omega) fun j y hj hy=>?_;by_cases Iq:j=i
    .subst Iq;rw[M]at hy;cases hy;exact I
    .exact hp j y (by omega) hy
   .exact .inl ⟨e,zj Y⟩
 exact key l.length 0 (by omega) fun j x hj=>absurd hj (by omega)
theorem jp1 {ε:Type}(n:Nat)(f:Int->Option (Int⊕(ε⊕Int)))(da:f (n:Int)=E6 (.inr (.inr (n:Int))))(cn:∀i:Nat,i<n->f (i:Int)=E6 (.inl ((i+1:Nat):Int))):bq f 0=E6 (.inr (n:Int)):=by
 have hl:(List.range n).length=n:=List.length_range;rcases Wz (List.range n) f (fun _ _=>True) (by rw[hl];exact da) (fun i x M=>.inl ⟨cn i (by have:=(H2.1 M).1;omega),trivial⟩)with⟨e,he⟩|⟨h,_⟩
 .exfalso
  have key:∀(k i:Nat),i+k=n->bq f (i:Int)=E6 (.inr (n:Int)):=by
   intro k
   induction k with
   |zero=>
    intro i hi
    have:i=n:=by omega
    subst this;exact zj da
   |succ k ih=>intro i hi;rw[km (cn i (by omega))];exact ih (i+1) (by omega)
  have:=key n 0 (by omega);rw[Int.natCast_zero,he]at this;cases this
 .rw[h,hl]
def jy {σ δ:Type}(p:j8)(c:aV)(St:σ->bn)(Ex:δ->jb×bn)(s:σ)(r:σ⊕δ):Prop:=match r with
 | .inl s'=>∃bP,X p c (St s)=E6 (.normal,bP)/\gc (St s).heap.length bP=St s'| .inr d=>X p c (St s)=E6 (Ex d)
theorem kp {σ δ:Type}{p:j8}{c:aV}{St:σ->bn}{Ex:δ->jb×bn}{s s':σ}{bP:bn}(M:X p c (St s)=E6 (.normal,bP))(hc:gc (St s).heap.length bP=St s'):jy p c St Ex s (.inl s'):=⟨bP,M,hc⟩
theorem qu {σ δ:Type}{p:j8}{c:aV}{St:σ->bn}{Ex:δ->jb×bn}{s:σ}{d:δ}(M:X p c (St s)=E6 (Ex d)):jy p c St Ex s (.inr d):=M
theorem jqu {σ δ:Type}{p:j8}{c:aV}{St:σ->bn}{Ex:δ->jb×bn}{f:σ->Option (σ⊕δ)}(hb:∀s r,f s=E6 r->jy p c St Ex s r)(hX:∀d,(Ex d).1≠.normal){d:δ}:
  ∀ {n:Nat} {s:σ},oq f n s=E6 d->X p (.loop c) (St s)=E6 (Ex d)
 |0,_,h=>by cases h
 |n+1,s,h=>by
  rw[oq]at h;rw[jcd]
  cases hf:f s with
  |none=>rw[hf]at h;cases h
  |some x=>
   rw[hf]at h;have G:=hb s x hf
   cases x with
   |inl s'=>
    obtain⟨bP,Y,I⟩:=G;rw[Y,q7x,I];exact jqu hb hX h
   |inr d'=>
    cases h;rw[show X p c (St s)=E6 (Ex d)from G,jiv (hX d)]
theorem lT {σ δ:Type}{p:j8}{c:aV}{St:σ->bn}{Ex:δ->jb×bn}{f:σ->Option (σ⊕δ)}(hb:∀s r,f s=E6 r->jy p c St Ex s r)(hX:∀d,(Ex d).1≠.normal){s:σ}{d:δ}(h:bq f s=E6 d):X p (.loop c) (St s)=E6 (Ex d):=by
 obtain⟨n,hn⟩:=Gq.1 h;exact jqu hb hX hn
theorem z8 {σ δ:Type}{p:j8}{c:aV}{St:σ->bn}{Ex:δ->jb×bn}{f:σ->Option (σ⊕δ)}(hb:∀s r,f s=some r->jy p c St Ex s r){s:σ}{d:δ}(h:bq f s=some d)(hX:∀d,(Ex d).1≠.normal:=by first|exact fun d hh=>by cases hh|(intro d;rcases d with d|d|d<;>(intro hh;cases hh))|(intro d;rcases d with d|d<;>(intro hh;cases hh))):X p (.loop c) (St s)=some (Ex d):=lT hb hX h
section
variable {h0:Nat}{al:ak Nat}{h:qf}{α:Type}
def qm (l:List α)(i:Int):Option α:=if 0<=i then l[i.toNat]? else Ha
theorem wR {l:List α}{i:Nat}:qm l (i:Int)=l[i]?:=by simp[qm]
theorem jm {z:Nat}{f:α->AVal}{l:Option (List α)}{k:IntKind}{i:Int}{x:α}(M:qm (l.getD []) i=E6 x):mr z h (E6 (sl z f l)) (E6 (.int k i))=E6 ⟨.aq (f x),Hb,Ha,h⟩:=by
 unfold qm at M;by_cases hi:0<=i
 .rw[if_pos hi]at M;obtain⟨n,rfl⟩:∃n:Nat,i=(n:Int):=⟨i.toNat,by omega⟩;exact jz3 (by simpa using M)
 .rw[if_neg hi]at M;cases M
theorem nE {s:aj}{k:IntKind}{i:Int}{c:UInt8}(M:qm s i=E6 c):Bv h (E6 (.str s)) (E6 (.int k i))=E6 ⟨.int .u8 (c.toNat:Int),Hb,Ha,h⟩:=by
 unfold qm at M;by_cases hi:0<=i
 .rw[if_pos hi]at M;obtain⟨n,rfl⟩:∃n:Nat,i=(n:Int):=⟨i.toNat,by omega⟩;exact jhg (by simpa using M)
 .rw[if_neg hi]at M;cases M
end
section
variable {h:qf}
@[go_sem] theorem jvv {agg:Bool}{len sz n:Nat}{k:IntKind}{cs:List AVal}:Oo agg len sz h (E6 (.aq (.agg cs))) (E6 (.int k (no_index (OfNat.ofNat n:Int))))=cm (decide ((OfNat.ofNat n:Nat)<len)) (vh agg h (Go.Abs.part agg cs ((OfNat.ofNat n:Nat)*sz) sz)):=by
 have e:(OfNat.ofNat n:Int)=(n:Int):=rfl;have e':(OfNat.ofNat n:Nat)=n:=rfl;rw[e,e'];by_cases hn:n<len
 .simp[Oo,vd,N6 hn,hn,cm,vh];rfl
 .have hi:rE len (n:Int)=Ha:=by unfold rE;rw[if_neg (by omega)]
  simp[Oo,vd,hi,hn,cm]
end
def zI (k:IntKind)(x y:Int):Option Int:=if y=0 then Ha else E6 (qd k (x.tdiv y))
def jT (x y:Int):Option Int:=if y=0 then Ha else E6 (x.tmod y)
theorem jcx {k:IntKind}{x y v:Int}(h:zI k x y=E6 v):yf .quo (.int k x) (.int k y)=E6 (.int k v):=by
 unfold zI at h;by_cases hy:y=0
 .rw[if_pos hy]at h;cases h
 .rw[if_neg hy]at h;cases h
  have:(y == 0)=Hb:=by simp[hy]
  simp[yf,nO,this]
theorem zz {k:IntKind}{x y v:Int}(h:jT x y=E6 v):yf .rem (.int k x) (.int k y)=E6 (.int k v):=by
 unfold jT at h;by_cases hy:y=0
 .rw[if_pos hy]at h;cases h
 .rw[if_neg hy]at h;cases h
  have:(y == 0)=Hb:=by simp[hy]
  simp[yf,nO,this]
def gZ (a b:aj):Option aj:=if a.length+b.length<=4611686018427387904 then E6 (a++b)else Ha
theorem ym {a b v:aj}(h:gZ a b=E6 v):yf .add (.str a) (.str b)=E6 (.str v):=by
 unfold gZ at h;by_cases hl:a.length+b.length<=4611686018427387904
 .rw[if_pos hl]at h;cases h;simp only[yf,Fo,nB,hl,decide_true,cond_true]
 .rw[if_neg hl]at h;cases h
section
variable {p:j8}{xc:XC}{h0:Nat}{al:ak Nat}{e:Env}{h:qf}
def WC (k:IntKind)(h:qf)(x:Option AVal):Option bu:=match x with
 |some (.int _ n)=>val h (.int k (qd k n))|_=>Ha
@[go_sem] theorem za4 {k k':IntKind}{n:Int}:WC k h (E6 (.int k' n))=E6 ⟨.int k (qd k n),Hb,Ha,h⟩:=rfl
@[go_sem] theorem zl6 {k:IntKind}{x:ju}:qe p xc h0 al e h (.conv k x)=WC k h (qh e x):=by
 simp only[qe,ql,WC]
 cases qh e x with
 |none=>rfl|some v=>cases v<;>rfl
def OS (h:qf)(x:Option AVal):Option bu:=match x with
 |some (.str s)=>val h (.str s)|some (.int _ n)=>val h (.str (Utf8.encode n).data.toList)|_=>Ha
@[go_sem] theorem jxl {k:IntKind}{n:Int}:OS h (E6 (.int k n))=E6 ⟨.str (Utf8.encode n).data.toList,Hb,Ha,h⟩:=rfl
@[go_sem] theorem j3e {s:aj}:OS h (E6 (.str s))=E6 ⟨.str s,Hb,Ha,h⟩:=rfl
@[go_sem] theorem zag {x:ju}:qe p xc h0 al e h (.eG x)=OS h (qh e x):=by
 simp only[qe,ql,OS]
 cases qh e x with
 |none=>rfl|some v=>cases v<;>rfl
def Kb (h:qf)(x:Option AVal):Option bu:=match x with
 |some (.ptr b o)=>val h (.ptr b o)|some (.aq v)=>val h (.aq v)|some (.fn (.func f) a b)=>val h (.fn (.func f) a b)|_=>Ha
@[go_sem] theorem j16 {b o:Nat}:Kb h (E6 (.ptr b o))=E6 ⟨.ptr b o,Hb,Ha,h⟩:=rfl
@[go_sem] theorem jvu {v:AVal}:Kb h (E6 (.aq v))=E6 ⟨.aq v,Hb,Ha,h⟩:=rfl
@[go_sem] theorem j4d {f:Nat}{a b:List AVal}:Kb h (E6 (.fn (.func f) a b))=E6 ⟨.fn (.func f) a b,Hb,Ha,h⟩:=rfl
@[go_sem] theorem j59 {x:ju}:qe p xc h0 al e h (.nilCheck x)=Kb h (qh e x):=by
 simp only[qe,ql,Kb];rfl
def WD (agg:Bool)(off n:Nat)(h:qf)(x:Option AVal):Option bu:=match x with
 |some (.agg cs)=>gK h (Go.Abs.part agg cs off n)|_=>Ha
@[go_sem] theorem j4w {agg:Bool}{off n:Nat}{cs:List AVal}:WD agg off n h (E6 (.agg cs))=gK h (Go.Abs.part agg cs off n):=rfl
@[go_sem] theorem zkv {agg:Bool}{off n:Nat}{x:ju}:qe p xc h0 al e h (.field agg off n x)=WD agg off n h (qh e x):=by
 simp only[qe,ql,WD]
 cases qh e x with
 |none=>rfl|some v=>cases v<;>rfl
def zly (agg:Bool)(len n:Nat)(h:qf)(x i:Option AVal):Option bu:=match x,i with
 |some (.agg cs),E6 j=>(match idx len j with
  |some j=>gK h (Go.Abs.part agg cs (j*n) n)
  |none=>Ha)
 |_,_=>Ha
end
section
variable {p:j8}{xc:XC}{h0:Nat}{al:ak Nat}{e:Env}{h:qf}{α:Type}
def lm (n mH:Nat):Option Int->Option Nat
 |none=>E6 mH
 |some i=>if 0<=i/\i<=n then E6 i.toNat else Ha
def fL (s:List α)(lo hi:Option Int):Option (List α):=match lm s.length s.length hi with
 |some j=>(match lm j 0 lo with
  |some i=>E6 ((s.take j).drop i)
  |none=>Ha)
 |none=>Ha
def jB (o:Option (List α))(lo hi:Option Int):Option (Option (List α)):=match fL (o.getD []) lo hi with
 |some l=>E6 (o.map fun _=>l)|none=>Ha
def qE (mH n:Nat):Option (Option AVal)->Option Nat
 |none=>E6 mH|some (E6 v)=>Ay n v|some Ha=>Ha
theorem jrd {mH n:Nat}{x:Option ju}:fG e mH n x=qE mH n (x.map (qh e)):=by
 cases x with
 |none=>rfl|some x=>simp only[fG,Il,qE];cases qh e x<;>rfl
theorem jub {n d:Nat}{k:IntKind}{i:Int}:Ay n (.int k i)=lm n d (E6 i):=by
 unfold Ay lm
 cases i with
 |ofNat m=>
  simp only[];by_cases hm:m<=n
  .rw[if_pos ⟨by simp,by simpa using hm⟩,Nat.ble_eq_true_of_le hm];rfl
  .rw[if_neg (by simp;omega)]
   cases hb:Ic m n with
   |true=>exact absurd (Nat.le_of_ble_eq_true hb) hm|false=>rfl
 |negSucc m=>simp
def Kc (k:IntKind):Option Int->Option (Option AVal)
 |none=>Ha|some i=>E6 (E6 (.int k i))
theorem WE {d n:Nat}{k:IntKind}{x:Option Int}:qE d n (Kc k x)=lm n d x:=by
 cases x with
 |none=>rfl|some i=>exact jub
def pU (sz:Nat)(h:qf)(x:Option AVal)(lo hi:Option (Option AVal)):Option bu:=match x with
 |some (.list n df xs)=>bif H8 sz df||xs.isEmpty then(match qE xs.length xs.length hi with
  |some j=>(match qE 0 j lo with
   |some i=>val h (.list n df ((xs.take j).drop i))
   |none=>Ha)
  |none=>Ha)else Ha
 |some (.ms b o len)=>(match qE len len hi with
  |some j=>(match qE 0 j lo with
   |some i=>bif H8 i 0||Nat.blt i j then val h (.ms b (o+i*sz) (j-i))else Ha
   |none=>Ha)
  |none=>Ha)
 |some (.ay b bN len)=>(match qE len len hi with
  |some j=>(match qE 0 j lo with
   |some i=>bif H8 i 0 then val h (.ay b bN j)else Ha
   |none=>Ha)
  |none=>Ha)
 |_=>Ha
attribute [go_sem] Option.map_some Option.map_none
@[go_sem] theorem zkw {sz:Nat}{x:ju}{lo hi:Option ju}:qe p xc h0 al e h (.slice sz x lo hi)=pU sz h (qh e x) (lo.map (qh e)) (hi.map (qh e)):=by
 simp only[qe,ql,pU,jrd]
 cases qh e x with
 |none=>rfl|some v=>cases v<;>rfl
theorem WG {z:Nat}{k k':IntKind}{f:α->AVal}{o v:Option (List α)}{lo hi:Option Int}(hv:jB o lo hi=E6 v):pU z h (E6 (sl z f o)) (Kc k lo) (Kc k' hi)=E6 ⟨sl z f v,Hb,Ha,h⟩:=by
 unfold jB fL at hv
 cases o with
 |none=>
  simp only[sl,pU,Ig,Ia,cond_true,WE];simp only[Ij]at hv
  cases Y:lm ([]:List α).length ([]:List α).length hi with
  |none=>rw[Y]at hv;cases hv
  |some j=>
   rw[Y]at hv;simp only[]at hv
   cases I:lm j 0 lo with
   |none=>rw[I]at hv;cases hv
   |some i=>
    rw[I]at hv;cases hv;simp only[H4]at Y;simp only[H4,Y,I,List.take_nil,List.drop_nil];rfl
 |some l=>
  simp only[sl,pU,Va,decide_true,If,cond_true,WE,Ib];simp only[Ik]at hv
  cases Y:lm l.length l.length hi with
  |none=>rw[Y]at hv;cases hv
  |some j=>
   rw[Y]at hv;simp only[]at hv
   cases I:lm j 0 lo with
   |none=>rw[I]at hv;cases hv
   |some i=>
    rw[I]at hv;cases hv;simp only[I,val,Il,List.map_drop,List.map_take]
theorem q79 {z:Nat}{k k':IntKind}{f:α->AVal}{o v:Option (List α)}{lo hi:Int}(hv:jB o (E6 lo) (E6 hi)=E6 v):pU z h (E6 (sl z f o)) (E6 (E6 (.int k lo))) (E6 (E6 (.int k' hi)))=E6 ⟨sl z f v,Hb,Ha,h⟩:=WG hv
theorem tD {z:Nat}{k:IntKind}{f:α->AVal}{o v:Option (List α)}{lo:Int}(hv:jB o (E6 lo) Ha=E6 v):pU z h (E6 (sl z f o)) (E6 (E6 (.int k lo))) Ha=E6 ⟨sl z f v,Hb,Ha,h⟩:=WG (k':=k) hv
theorem vm {z:Nat}{k:IntKind}{f:α->AVal}{o v:Option (List α)}{hi:Int}(hv:jB o Ha (E6 hi)=E6 v):pU z h (E6 (sl z f o)) Ha (E6 (E6 (.int k hi)))=E6 ⟨sl z f v,Hb,Ha,h⟩:=WG (k:=k) hv
def Gr (h:qf)(x:Option AVal)(lo hi:Option (Option AVal)):Option bu:=match x with
 |some (.str s)=>(match qE s.length s.length hi with
  |some j=>(match qE 0 j lo with
   |some i=>val h (.str ((s.take j).drop i))
   |none=>Ha)
  |none=>Ha)
 |_=>Ha
@[go_sem] theorem j5m {x:ju}{lo hi:Option ju}:qe p xc h0 al e h (.dI x lo hi)=Gr h (qh e x) (lo.map (qh e)) (hi.map (qh e)):=by
 simp only[qe,ql,Gr,jrd]
 cases qh e x with
 |none=>rfl|some v=>cases v<;>rfl
theorem jj9 {k k':IntKind}{s v:aj}{lo hi:Option Int}(hv:fL s lo hi=E6 v):Gr h (E6 (.str s)) (Kc k lo) (Kc k' hi)=E6 ⟨.str v,Hb,Ha,h⟩:=by
 unfold fL at hv;simp only[Gr,WE]
 cases Y:lm s.length s.length hi with
 |none=>rw[Y]at hv;cases hv
 |some j=>
  rw[Y]at hv;simp only[]at hv
  cases I:lm j 0 lo with
  |none=>rw[I]at hv;cases hv|some i=>rw[I]at hv;cases hv;simp only[I,val]
theorem lU {k:IntKind}{s v:aj}{lo:Int}(hv:fL s (E6 lo) Ha=E6 v):Gr h (E6 (.str s)) (E6 (E6 (.int k lo))) Ha=E6 ⟨.str v,Hb,Ha,h⟩:=jj9 (k':=k) hv
theorem y8 {k:IntKind}{s v:aj}{hi:Int}(hv:fL s Ha (E6 hi)=E6 v):Gr h (E6 (.str s)) Ha (E6 (E6 (.int k hi)))=E6 ⟨.str v,Hb,Ha,h⟩:=jj9 (k:=k) hv
end
section
variable {h:qf}{α:Type}
def yP (o:Option (List α))(ys:List α):Option (List α):=match o,ys with
 |none,[]=>Ha|o,ys=>E6 (o.getD []++ys)
def bC (o:Option (List α))(ys:List α):Option (Option (List α)):=if(o.getD []).length+ys.length<=1073741824 then E6 (yP o ys)else Ha
theorem WH {z b:Nat}{own:Option Nat}{f:α->AVal}{o:Option (List α)}{ys:List α}{v:Option (List α)}{y:AVal}(hz:0<z)(hb:b<=4096)(hy:yg z y=E6 (ys.map f))(hv:bC o ys=E6 v)
  (ho:o=Ha\/own.isSome=Hc):bR z b h own (E6 (sl z f o)) (E6 y)=E6 ⟨sl z f v,Hc,own,h⟩:=by
 unfold bC at hv;by_cases hl:(o.getD []).length+ys.length<=1073741824
 .rw[if_pos hl]at hv;cases hv
  cases o with
  |none=>
   simp only[sl,bR,bR.iB,hy,cm,If,Ig,Io,Ia,H4,Ib,nB,vg,hz,hb,decide_true];simp only[Ij,H4]at hl;simp only[hl,decide_true,Ip,Ia]
   cases ys with
   |nil=>rfl|cons y ys=>simp[uk,yP,sl]
  |some l=>
   have x5:own.isSome=Hc:=by rcases ho with h|h;cases h;exact h
   simp only[sl,bR,bR.iB,hy,cm,x5,Ia,Va,nB,vg,hz,hb,decide_true,If,Ib];simp only[Ik]at hl;simp only[hl,decide_true,Ip];simp[uk,yP,sl]
 .rw[if_neg hl]at hv;cases hv
theorem WI {z b t:Nat}{f:α->AVal}{o o2 v:Option (List α)}(hv:bC o (o2.getD [])=E6 v):bR (z+1) b h (E6 t) (E6 (sl (z+1) f o)) (E6 (sl (z+1) f o2))=cm (decide (b<=4096)) (E6 ⟨sl (z+1) f v,Hc,E6 t,h⟩):=by
 by_cases hb:b<=4096
 .rw[WH (by omega) hb Vq hv (.inr rfl)];simp[cm,hb]
 .have fq:decide (b<=4096)=Hb:=by simp[hb]
  rw[fq]
  cases o with
  |none=>simp[sl,bR,bR.iB,cm,hb,nB];split<;>rfl|some l=>simp[sl,bR,bR.iB,cm,hb,nB];split<;>rfl
theorem vk {z b t:Nat}{f:α->AVal}{x:α}{y:AVal}{o v:Option (List α)}(hz:0<z)(hy:yg z y=E6 [f x])(hv:bC o [x]=E6 v):bR z b h (E6 t) (E6 (sl z f o)) (E6 y)=cm (decide (b<=4096)) (E6 ⟨sl z f v,Hc,E6 t,h⟩):=by
 by_cases hb:b<=4096
 .rw[WH hz hb hy hv (.inr rfl)];simp[cm,hb]
 .have fq:decide (b<=4096)=Hb:=by simp[hb]
  rw[fq]
  cases o with
  |none=>simp[sl,bR,bR.iB,cm,hb,hy,nB]|some l=>simp[sl,bR,bR.iB,cm,hb,hy,nB]
theorem jjj {z b t:Nat}{f:α->AVal}{o2 v:Option (List α)}(hv:bC (E6 []) (o2.getD [])=E6 v):bR (z+1) b h (E6 t) (E6 (.list Hb (z+1) [])) (E6 (sl (z+1) f o2))=cm (decide (b<=4096)) (E6 ⟨sl (z+1) f v,Hc,E6 t,h⟩):=
 WI (o:=E6 []) hv
end
def jf (s:aj):AVal:=.str s
@[go_sem] theorem j5x {h0:Nat}{al:ak Nat}{h:qf}{b:aj}:gT h0 al Hb 1 h (E6 (.aq (jf b)))=E6 ⟨.str b,Hb,Ha,h⟩:=rfl
@[go_sem] theorem j8k {n z:Nat}{l:ak aj}:below n (sl z jf l)=Hc:=vf fun _=>rfl
theorem VM {b t:Nat}{h:qf}{bb:Bool}{x:Int}{o v:ak Int}(hv:bC o [x]=E6 v):bR 1 b h (E6 t) (E6 (sl 1 jt o)) (E6 (.list bb 1 [.int .i64 x]))=cm (decide (b<=4096)) (E6 ⟨sl 1 jt v,Hc,E6 t,h⟩):=vk (by omega) rfl hv
theorem q02 {b t:Nat}{h:qf}{bb:Bool}{x:aj}{o v:ak aj}(hv:bC o [x]=E6 v):bR 1 b h (E6 t) (E6 (sl 1 jf o)) (E6 (.list bb 1 [.str x]))=cm (decide (b<=4096)) (E6 ⟨sl 1 jf v,Hc,E6 t,h⟩):=vk (by omega) rfl hv
theorem q3l {p:j8}{xc:XC}{k:Nat}{args:List AVal}{v v':AVal}{o:Bool}{h:qf}(hp:p.cB k=Ha)(hc:ai p xc k args []=E6 (v,o,h))(hz:aX h v=E6 v')(hv:below 0 v'=Hc)(hl:v.cP=Hc):ae p xc k args=E6 (v',o):=by
 rw[jr hp hc hz hv,hl,Io]
section
variable {p:j8}{xc:XC}{h0:Nat}{al:ak Nat}{e:Env}{h:qf}{α:Type}
def vD (h0 r sz bytes:Nat)(zero:List AVal)(h:qf)(n c:Option AVal):Option bu:=match n,c with
 |some (.int .i64 (.ofNat n)),E6 (.int .i64 (.ofNat c))=>
  bif H8 n c&&Ic n 1073741824&&Ic bytes 4096&&H8 zero.length sz&&Nat.blt 0 sz&&zero.all qk then
   (match aO h0 h r (.cells (cellsOf (List.replicate n zero).flatten))with
    |some h'=>val h' (.ms (h0+r) 0 n)
    |none=>Ha)else Ha
 |_,_=>Ha
@[go_sem] theorem zlg {r sz b:Nat}{z:List AVal}{n c:ju}:qe p xc h0 al e h (.b9 (E6 r) sz b z n c)=vD h0 r sz b z h (qh e n) (qh e c):=by
 simp only[qe,qn,vD];rfl
def B8 (h0 r sz bytes:Nat)(h:qf)(own:Option Nat)(x y:Option AVal):Option bu:=match x,y with
 |some (.list Hb df []),E6 vy=>
  bif own.isSome&&H8 sz df then
   (match yg sz vy with
    |some ys=>
     bif Ic ys.length 1073741824&&Ic bytes 4096&&Nat.blt 0 sz then
      (match aO h0 h r (.cells (cellsOf (ys.flatMap AVal.flat)))with
       |some h'=>E6 ⟨.ms (h0+r) 0 ys.length,Hb,own,h'⟩
       |none=>Ha)
     else Ha
    |none=>Ha)
  else Ha
 |_,_=>Ha
@[go_sem] theorem zbl {r sz b:Nat}{x y:ju}:qe p xc h0 al e h (.append (E6 r) sz b x y)=B8 h0 r sz b h (z5 e x) (qh e x) (qh e y):=by
 simp only[qe,qn,B8];rfl
def jz8 (own:Option Nat)(v:AVal)(r:Option qf):Option bu:=match r with
 |some h'=>E6 ⟨v,Hb,own,h'⟩|none=>Ha
@[go_sem] theorem j34 {own:Option Nat}{v:AVal}:jz8 own v (E6 h)=E6 ⟨v,Hb,own,h⟩:=rfl
def OT (c:Option (List (AVal×Bool)))(off len:Nat):Option AVal:=match c with
 |some cs=>bif Fp off len cs then E6 (.list Hb (cs.length / len) (nu (cs.length / len) len (cs.map (·.1))))else(match zt cs off len with
  |some vs=>E6 (.list Hb 1 vs)
  |none=>Ha)
 |none=>Ha
@[go_sem] theorem Gs {b o n:Nat}:aX h (.ms b o n)=OT (qw h b) o n:=by
 simp only[aX,jL,OT];rfl
@[go_sem] theorem j9l {z:Nat}{f:α->AVal}{o:Option (List α)}:Jt 0 Hb h (E6 (sl z f o))=E6 ⟨.bool o.isNone,Hb,Ha,h⟩:=by cases o<;>rfl
theorem tf {z b:Nat}{f:α->AVal}{x:α}{y:AVal}{o v:Option (List α)}(hz:0<z)(hy:yg z y=E6 [f x])(hn:o.isNone=Hc)(hv:bC o [x]=E6 v):bR z b h Ha (E6 (sl z f o)) (E6 y)=cm (decide (b<=4096)) (E6 ⟨sl z f v,Hc,Ha,h⟩):=by
 cases o with
 |some l=>cases hn
 |none=>
  by_cases hb:b<=4096
  .rw[WH hz hb hy hv (.inl rfl)];simp[cm,hb]
  .have fq:decide (b<=4096)=Hb:=by simp[hb]
   rw[fq];simp[sl,bR,bR.iB,cm,hb,hy,nB]
theorem VN {b:Nat}{bb:Bool}{x:Int}{o v:ak Int}(hv:bC o [x]=E6 v)(hn:o.isNone=Hc):bR 1 b h Ha (E6 (sl 1 jt o)) (E6 (.list bb 1 [.int .i64 x]))=cm (decide (b<=4096)) (E6 ⟨sl 1 jt v,Hc,Ha,h⟩):=tf (by omega) rfl hn hv
attribute [go_sem] Nat.le_refl
end
@[go_sem] theorem zl7 {h:qf}{a b c d:Int}:VO [.int,.int] Hc h (E6 (.agg [.int .i64 a,.int .i64 b])) (E6 (.agg [.int .i64 c,.int .i64 d]))=E6 ⟨.bool (!(decide (a=c)&&decide (b=d))),Hb,Ha,h⟩:=by
 show(match y9 [.int,.int] [.int .i64 a,.int .i64 b] [.int .i64 c,.int .i64 d]with|some t=>val h (.bool (bif Hc then !t else t))|none=>Ha)=_
 have:y9 [.int,.int] [.int .i64 a,.int .i64 b] [.int .i64 c,.int .i64 d]=E6 (decide (a=c)&&decide (b=d)):=by
  have e:∀x y:Int,(x == y)=decide (x=y):=fun x y=>by by_cases h:x=y<;>simp[h]
  simp only[y9,nq,e,decide_true,cond_true];by_cases Y:a=c<;>by_cases I:b=d<;>simp[Y,I]
 rw[this];rfl
section
variable {p:j8}{xc:XC}{h0:Nat}{al:ak Nat}{e:Env}{h:qf}
end
def uj (p:j8)(more:Aw)(op:Nat->Bool):j8:={ br:=p.br,cF:=p.cF,maps:=p.maps,cB:=fun k=>bif op k then Ha else match more k with
 |some f=>E6 f
 |none=>bif (p.br k).isSome||(p.cB k).isSome||(p.cF k).isSome then E6 fun args=>ae p (X p) k args else Ha }
theorem jmw {P:Program}{p:j8}{more:Aw}{op:Nat->Bool}(hp:bX P p)(hm:∀k f,more k=E6 f->Enters P k/\∀args v o,f args=E6 (v,o)->l7 v=Hc->qo 0 args=Hc->IsoCall P k args v o):bX P (uj p more op) where
 fn:=hp.fn
 maps:=hp.maps
 fM:=by
  intro k f hf
  cases ho:op k with
  |true=>
   have:(uj p more op).cB k=Ha:=by simp only[uj,ho,cond_true]
   rw[this]at hf;cases hf
  |false=>
  cases yE:more k with
  |some g=>
   have:(uj p more op).cB k=E6 g:=by simp only[uj,ho,cond_false,yE]
   rw[this]at hf;cases hf;exact hm k _ yE
  |none=>
   cases hk:((p.br k).isSome||(p.cB k).isSome||(p.cF k).isSome)with
   |false=>
    have:(uj p more op).cB k=Ha:=by simp only[uj,ho,yE,hk,cond_false]
    rw[this]at hf;cases hf
   |true=>
    have:(uj p more op).cB k=E6 fun args=>ae p (X p) k args:=by simp only[uj,ho,cond_false,yE,hk,cond_true]
    rw[this]at hf;cases hf;refine⟨?_,fun args v o h _ hb=>q97 hp h hb⟩;simp only[Bool.or_eq_true]at hk;rcases hk with(h|h)|h
    .obtain⟨af,ha⟩:=H3.1 h;exact hp.enters ha
    .obtain⟨g,hg⟩:=H3.1 h;exact(hp.fM k g hg).1
    .obtain⟨g,hg⟩:=H3.1 h;exact(hp.eU k g hg).1
 mixed:=hp.mixed
 eU:=hp.eU
theorem zd {i:Nat}(h:i<9223372036854775807):qd .i64 ((i:Int)+1)=((i+1:Nat):Int):=by
 rw[N7 (by omega) (by omega)];rfl
variable {h:qf}
theorem jek {b:Nat}{bb:Bool}{x:aj}{o v:ak aj}(hv:bC o [x]=E6 v)(hn:o.isNone=Hc):bR 1 b h Ha (E6 (sl 1 jf o)) (E6 (.list bb 1 [.str x]))=cm (decide (b<=4096)) (E6 ⟨sl 1 jf v,Hc,Ha,h⟩):=tf (by omega) rfl hn hv
theorem jys {b pos:Nat}{s:aj}(hp:decide (pos<s.length)=Hc):vi h b (E6 (.iter s pos))=iA (j0 h b (.iter s (pos+(qj s pos).2))) (.aJ [.bool Hc,.int .i64 pos,.int .i32 (qj s pos).1]):=jmf (of_decide_eq_true hp)
theorem jwm {b pos:Nat}{s:aj}(hp:decide (pos<s.length)=Hb):vi h b (E6 (.iter s pos))=E6 ⟨.aJ [.bool Hb],Hb,Ha,h⟩:=jhh (of_decide_eq_false hp)
end Go.Z
end
