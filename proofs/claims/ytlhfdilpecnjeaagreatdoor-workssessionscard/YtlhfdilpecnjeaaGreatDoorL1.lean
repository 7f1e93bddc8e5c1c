/- What the line's functions compute, and the small functions of the checks. -/
import Derived.Test.YtlhfdilpecnjeaaGreatDoorZM
import Derived.Test.YtlhfdilpecnjeaaGreatDoorAbsL
set_option linter.all false
set_option maxRecDepth 100000
noncomputable section
open Option renaming some->Ga,none->Gb,isSome_iff_exists->Hc,getD_none->Ip,getD_some->Ir,map_some->Iu
open Bool renaming false->Gd,true->Ha,or_true->Ig,true_or->Ik,and_true->Ix,and_self->Iy
open List renaming getElem?_eq_some_iff->Hb,length_nil->Hq,getElem?_eq_getElem->If,length_map->Ii,isEmpty_nil->Io
open Nat renaming beq->H2,ble->Ij
namespace Go.Z
open Go Go.Abs
theorem qR {α:Type}{l:List α}{i:Nat}{x:α}(M:l[i]?=Ga x):l.drop i=x::l.drop (i+1):=by
 obtain⟨Y,I⟩:=Hb.1 M;rw[List.drop_eq_getElem_cons Y,I]
theorem jjt {i:Nat}{n:Nat}(h:i<n)(hn:n<=9223372036854775807):qd .i64 ((i:Int)+1)=((i+1:Nat):Int):=by
 rw[OS (by omega) (by omega)];rfl
structure PA where
 l5:aj
 values:ak Int
def XH (u:PA):AVal:=.agg [.str u.l5,sl 1 zf u.values]
theorem j43 {u:PA}:(XH u).flat=[.str u.l5,sl 1 zf u.values]:=rfl
def acc {α:Type}(z:Nat)(f:α->AVal)(l:List α):AVal:=match l with
 | []=>.list Ha 0 []|a::l=>.list Gd z ((a::l).map f)
def fE {α:Type}(l:List α):Bool:=!l.isEmpty
def jd {α:Type}(l:List α):Option (List α):=match l with
 | []=>Gb|a::l=>Ga (a::l)
theorem zlp {α:Type}{z:Nat}{f:α->AVal}:acc z f []=.list Ha 0 []:=rfl
theorem zha {α:Type}:fE (α:=α) []=Gd:=rfl
theorem zN {α:Type}(l:List α)(x:α):fE (l++[x])=Ha:=by cases l<;>rfl
theorem jwk {n:Nat}:mT n []=Ha:=rfl
theorem jwg {n t:Nat}{v:AVal}{o:Bool}{e:Env}:mT n ((t,v,o)::e)=(below n v&&mT n e):=rfl
theorem j4q {h0:Nat}{al:ak Nat}{h:qh}{u:PA}:iu h0 al Ha 2 h (Ga (.aq (XH u)))=Ga ⟨.agg [.str u.l5,sl 1 zf u.values],Gd,Gb,h⟩:=rfl
def qX (i:Nat)(x:Int):Bool:=decide (65<=x/\x<=90)||decide (97<=x/\x<=122)||(decide (i≠0)&&(decide (48<=x/\x<=57)||decide (x=95)))
theorem kinds (x:Int):x<=47\/(48<=x/\x<=57)\/(58<=x/\x<=64)\/(65<=x/\x<=90)\/(91<=x/\x<=94)\/x=95\/x=96\/(97<=x/\x<=122)\/123<=x:=by omega
def vW (i:Nat):aj->Bool
 | []=>Ha|c::s=>qX i c.toNat&&vW (i+1) s
def cu (s:aj):Bool:=decide (s≠[])&&decide (s.length<=24)&&vW 0 s
theorem jrw {v:AVal}:qz 0 v []=[]:=rfl
theorem jqi {h:qh}{u:PA}:Gi Gd 0 1 h (Ga (.aq (XH u)))=Ga ⟨.aq (.str u.l5),Gd,Gb,h⟩:=rfl
theorem zme {n:Nat}{v:AVal}{h:qh}:qz n v h=bif Ij h.length n then h else bif below n v&&qt n (h.take n)then h.take n else h:=rfl
theorem jv7 {n:Nat}:qt n []=Ha:=rfl
theorem jt4 {n:Nat}{b:aM}{h:qh}:qt n (b::h)=(zj n b&&qt n h):=rfl
theorem jve {n:Nat}{cs:List (AVal×Bool)}:zj n (.cells cs)=zq n cs:=rfl
theorem jsg {n:Nat}:zq n []=Ha:=rfl
theorem jr1 {n:Nat}{v:AVal}{o:Bool}{cs:List (AVal×Bool)}:zq n ((v,o)::cs)=(below n v&&zq n cs):=rfl
def xK (h0:Nat)(al:ak Nat)(sz:Nat)(h:qh)(x y:Option AVal):Option bA:=match x,y with
  |some (.ms b o len),Ga vy=>bif ze h0 al b then(match qv h b with
   |some cs=>(match AR sz len vy with
    |some (n,vs)=>(match jx cs o vs with
     |some eK=>bif H2 vs.length (n*sz)then(match jy h b (.cells eK)with
      |some h'=>val h' (.int .i64 n)
      |none=>Gb)else Gb
     |none=>Gb)
    |none=>Gb)
   |none=>Gb)else Gb
  |_,_=>Gb
theorem zmu {p:j8}{xc:XC}{h0:Nat}{al:ak Nat}{e:Env}{h:qh}{sz:Nat}{x y:jw}:qf p xc h0 al e h (.copy sz x y)=xK h0 al sz h (qi e x) (qi e y):=rfl
theorem zmy {k:IntKind}{x:Int}:yH .neg (.int k x)=Ga (.int k (qd k (0-x))):=rfl
def WN (ks:List Kd)(neq:Bool)(h:qh)(x y:Option AVal):Option bA:=match x,y with
  |some (.agg a),Ga (.agg b)=>bif H2 a.length ks.length&&H2 b.length ks.length then(match yx ks a b with
   |some t=>val h (.bool (bif neq then !t else t))
   |none=>Gb)else Gb
  |_,_=>Gb
theorem zm7 {p:j8}{xc:XC}{h0:Nat}{al:ak Nat}{e:Env}{h:qh}{ks:List Kd}{neq:Bool}{x y:jw}:qf p xc h0 al e h (.eqs ks neq x y)=WN ks neq h (qi e x) (qi e y):=rfl
def conv (f g:Nat->Nat):Nat->Nat
 |0=>f 0*g 0
 |s+1=>f 0*g (s+1)+conv (fun k=>f (k+1)) g s
def j8o (b:Bool):AVal:=.bool b
theorem j4l {h0:Nat}{al:ak Nat}{h:qh}{b:Bool}:iu h0 al Gd 1 h (Ga (.aq (j8o b)))=Ga ⟨.bool b,Gd,Gb,h⟩:=rfl
def qa {α β:Type}(x:Option α)(f:α->Option β):Option β:=match x with
 |some a=>f a|none=>Gb
@[simp] theorem qe {α β:Type}{a:α}{f:α->Option β}:qa (Ga a) f=f a:=rfl
@[simp] theorem zij {α β:Type}{f:α->Option β}:qa Gb f=Gb:=rfl
theorem qb {α β:Type}{x:Option α}{f:α->Option β}{r:β}(h:qa x f=Ga r):∃a,x=Ga a/\f a=Ga r:=by
 cases x with
 |none=>cases h|some a=>exact⟨a,rfl,h⟩
theorem qc {α:Type}{c:Bool}{a b r:α}(h:cond c a b=r):(c=Ha/\a=r)\/(c=Gd/\b=r):=by
 cases c
 .exact .inr ⟨rfl,h⟩
 .exact .inl ⟨rfl,h⟩
def oX {σ δ:Type}(f:σ->Option (σ⊕δ)):Nat->σ->Option δ
 |0,_=>Gb
 |n+1,s=>match f s with
  |none=>Gb|some (.inl s')=>oX f n s'|some (.inr d)=>Ga d
theorem jay {σ δ:Type}{f:σ->Option (σ⊕δ)}{d:δ}:∀ {n:Nat} {s:σ},oX f n s=Ga d->oX f (n+1) s=Ga d
 |0,_,h=>by cases h
 |n+1,s,h=>by
  rw[oX]at h ⊢
  cases hf:f s with
  |none=>rw[hf]at h;cases h
  |some x=>
   rw[hf]at h
   cases x with
   |inl s'=>exact jay h|inr d'=>exact h
theorem jh2 {σ δ:Type}{f:σ->Option (σ⊕δ)}{d:δ}{n m:Nat}{s:σ}(hm:n<=m)(h:oX f n s=Ga d):oX f m s=Ga d:=by
 induction hm with
 |refl=>exact h|step _ ih=>exact jay ih
open Classical in
def bd {σ δ:Type}(f:σ->Option (σ⊕δ))(s:σ):Option δ:=
 if h:∃d n,oX f n s=Ga d then Ga (Classical.choose h)else Gb
theorem GO {σ δ:Type}{f:σ->Option (σ⊕δ)}{s:σ}{d:δ}:bd f s=Ga d↔∃n,oX f n s=Ga d:=by
 unfold bd;constructor
 .intro h;split at h
  .rename_i hh;cases h;exact Classical.choose_spec hh
  .cases h
 .rintro ⟨n,hn⟩;have hh:∃d n,oX f n s=Ga d:=⟨d,n,hn⟩;rw[dif_pos hh];obtain⟨m,hm⟩:=Classical.choose_spec hh;have Y:=jh2 (Nat.le_max_left n m) hn;have I:=jh2 (Nat.le_max_right n m) hm;rw[Y]at I;exact I.symm
theorem z9 {σ δ:Type}{f:σ->Option (σ⊕δ)}{s s':σ}(h:f s=Ga (.inl s')):bd f s=bd f s':=by
 apply Option.ext;intro d;rw[GO,GO];constructor
 .rintro ⟨n,hn⟩
  cases n with
  |zero=>cases hn|succ n=>rw[oX,h]at hn;exact⟨n,hn⟩
 .rintro ⟨n,hn⟩;exact⟨n+1,by rw[oX,h];exact hn⟩
theorem ju {σ δ:Type}{f:σ->Option (σ⊕δ)}{s:σ}{d:δ}(h:f s=Ga (.inr d)):bd f s=Ga d:=
 GO.2 ⟨1,by rw[oX,h]⟩
theorem jck {α γ σ δ ε:Type}(l:List α)(f:σ->Option (σ⊕δ))(mk:Nat->γ->σ)(g:Nat->γ->α->γ⊕ε)(En:γ->δ)(Ex:ε->δ)(Inv:Nat->γ->Prop)
  (dh:∀s,Inv l.length s->f (mk l.length s)=Ga (.inr (En s)))
  (cm:∀i s x,l[i]?=Ga x->i<l.length->Inv i s->match g i s x with
   | .inl s'=>Inv (i+1) s'/\f (mk i s)=Ga (.inl (mk (i+1) s'))
   | .inr d=>f (mk i s)=Ga (.inr (Ex d))):
  ∀(k i:Nat) (s:γ),i+k=l.length->Inv i s->bd f (mk i s)=Ga (match Gj g i s (l.drop i)with
   | .inl s=>En s
   | .inr d=>Ex d)
 |0,i,s,hi,hv=>by
  have gI:i=l.length:=by omega
  subst gI;rw[List.drop_eq_nil_of_le (Nat.le_refl _),ju (dh s hv)];rfl
 |k+1,i,s,hi,hv=>by
  obtain⟨x,M⟩:∃x,l[i]?=Ga x:=⟨_,If (by omega)⟩;have G:=cm i s x M (by omega) hv;rw[qR M];simp only[Gj]
  cases hg:g i s x with
  |inl s'=>
   rw[hg]at G;obtain⟨xh,Y⟩:=G;rw[z9 Y];exact jck l f mk g En Ex Inv dh cm k (i+1) s' (by omega) xh
  |inr d=>
   rw[hg]at G;rw[ju G]
theorem q8i {α γ σ δ ε:Type}(l:List α)(f:σ->Option (σ⊕δ))(mk:Nat->γ->σ)(g:Nat->γ->α->γ⊕ε)(En:γ->δ)(Ex:ε->δ)(Inv:Nat->γ->Prop)(s:γ)
  (dh:∀s,Inv l.length s->f (mk l.length s)=Ga (.inr (En s)))
  (cm:∀i s x,l[i]?=Ga x->i<l.length->Inv i s->match g i s x with
   | .inl s'=>Inv (i+1) s'/\f (mk i s)=Ga (.inl (mk (i+1) s'))
   | .inr d=>f (mk i s)=Ga (.inr (Ex d))) (hv:Inv 0 s):
  bd f (mk 0 s)=Ga (match Gj g 0 s l with
   | .inl s=>En s
   | .inr d=>Ex d):=by
 have:=jck l f mk g En Ex Inv dh cm l.length 0 s (by omega) hv;rwa [List.drop_zero]at this
theorem jtn {α ε:Type}(l:List α)(f:Int->Option (Int⊕(ε⊕Int)))(P:Nat->α->Prop)
  (dh:f (l.length:Int)=Ga (.inr (.inr (l.length:Int))))
  (cm:∀(i:Nat) (x:α),l[i]?=Ga x->(f (i:Int)=Ga (.inl ((i+1:Nat):Int))/\P i x)\/∃e,f (i:Int)=Ga (.inr (.inl e))):
  (∃e,bd f 0=Ga (.inl e))\/(bd f 0=Ga (.inr (l.length:Int))/\∀(i:Nat) (x:α),l[i]?=Ga x->P i x):=by
 have key:∀(k i:Nat),i+k=l.length->(∀(j:Nat) (x:α),j<i->l[j]?=Ga x->P j x) ->
   (∃e,bd f (i:Int)=Ga (.inl e))\/(bd f (i:Int)=Ga (.inr (l.length:Int))/\∀(i:Nat) (x:α),l[i]?=Ga x->P i x):=by
  intro k
  induction k with
  |zero=>
   intro i hi hp
   have:i=l.length:=by omega
   subst this;exact .inr ⟨ju dh,fun j x M=>hp j x (Hb.1 M).1 M⟩
  |succ k ih=>
   intro i hi hp;obtain⟨x,M⟩:∃x,l[i]?=Ga x:=⟨_,If (by omega)⟩;rcases cm i x M with⟨Y,I⟩|⟨e,Y⟩
   .rw[z9 Y];refine ih (i+1) (by omega) fun j y hj hy=>?_;by_cases I1:j=i
    .subst I1;rw[M]at hy;cases hy;exact I
    .exact hp j y (by omega) hy
   .exact .inl ⟨e,ju Y⟩
 exact key l.length 0 (by omega) fun j x hj=>absurd hj (by omega)
theorem jni {ε:Type}(n:Nat)(f:Int->Option (Int⊕(ε⊕Int)))(dh:f (n:Int)=Ga (.inr (.inr (n:Int))))(cm:∀i:Nat,i<n->f (i:Int)=Ga (.inl ((i+1:Nat):Int))):bd f 0=Ga (.inr (n:Int)):=by
 have hl:(List.range n).length=n:=List.length_range;rcases jtn (List.range n) f (fun _ _=>True) (by rw[hl];exact dh) (fun i x M=>.inl ⟨cm i (by have:=(Hb.1 M).1;omega),trivial⟩)with⟨e,he⟩|⟨h,_⟩
 .exfalso
  have key:∀(k i:Nat),i+k=n->bd f (i:Int)=Ga (.inr (n:Int)):=by
   intro k
   induction k with
   |zero=>
    intro i hi
    have:i=n:=by omega
    subst this;exact ju dh
   |succ k ih=>intro i hi;rw[z9 (cm i (by omega))];exact ih (i+1) (by omega)
  have:=key n 0 (by omega);rw[Int.natCast_zero,he]at this;cases this
 .rw[h,hl]
def jo {σ δ:Type}(p:j8)(c:bn)(St:σ->bg)(Ex:δ->q9×bg)(s:σ)(r:σ⊕δ):Prop:=match r with
 | .inl s'=>∃bH,X p c (St s)=Ga (.normal,bH)/\gc (St s).heap.length bH=St s'| .inr d=>X p c (St s)=Ga (Ex d)
theorem z5 {σ δ:Type}{p:j8}{c:bn}{St:σ->bg}{Ex:δ->q9×bg}{s s':σ}{bH:bg}(M:X p c (St s)=Ga (.normal,bH))(hc:gc (St s).heap.length bH=St s'):jo p c St Ex s (.inl s'):=⟨bH,M,hc⟩
theorem qn {σ δ:Type}{p:j8}{c:bn}{St:σ->bg}{Ex:δ->q9×bg}{s:σ}{d:δ}(M:X p c (St s)=Ga (Ex d)):jo p c St Ex s (.inr d):=M
theorem jru {σ δ:Type}{p:j8}{c:bn}{St:σ->bg}{Ex:δ->q9×bg}{f:σ->Option (σ⊕δ)}(hb:∀s r,f s=Ga r->jo p c St Ex s r)(hX:∀d,(Ex d).1≠.normal){d:δ}:
  ∀ {n:Nat} {s:σ},oX f n s=Ga d->X p (.loop c) (St s)=Ga (Ex d)
 |0,_,h=>by cases h
 |n+1,s,h=>by
  rw[oX]at h;rw[VY]
  cases hf:f s with
  |none=>rw[hf]at h;cases h
  |some x=>
   rw[hf]at h;have G:=hb s x hf
   cases x with
   |inl s'=>
    obtain⟨bH,Y,I⟩:=G;rw[Y,q8x,I];exact jru hb hX h
   |inr d'=>
    cases h;rw[show X p c (St s)=Ga (Ex d)from G,ji3 (hX d)]
theorem kz {σ δ:Type}{p:j8}{c:bn}{St:σ->bg}{Ex:δ->q9×bg}{f:σ->Option (σ⊕δ)}(hb:∀s r,f s=Ga r->jo p c St Ex s r)(hX:∀d,(Ex d).1≠.normal){s:σ}{d:δ}(h:bd f s=Ga d):X p (.loop c) (St s)=Ga (Ex d):=by
 obtain⟨n,hn⟩:=GO.1 h;exact jru hb hX hn
theorem zz {σ δ:Type}{p:j8}{c:bn}{St:σ->bg}{Ex:δ->q9×bg}{f:σ->Option (σ⊕δ)}(hb:∀s r,f s=some r->jo p c St Ex s r){s:σ}{d:δ}(h:bd f s=some d)(hX:∀d,(Ex d).1≠.normal:=by first|exact fun d hh=>by cases hh|(intro d;rcases d with d|d|d<;>(intro hh;cases hh))|(intro d;rcases d with d|d<;>(intro hh;cases hh))):X p (.loop c) (St s)=some (Ex d):=kz hb hX h
section
variable {h0:Nat}{al:ak Nat}{h:qh}{α:Type}
def ql (l:List α)(i:Int):Option α:=if 0<=i then l[i.toNat]? else Gb
theorem oO {l:List α}{i:Nat}:ql l (i:Int)=l[i]?:=by simp[ql]
theorem jn {z:Nat}{f:α->AVal}{l:Option (List α)}{k:IntKind}{i:Int}{x:α}(M:ql (l.getD []) i=Ga x):mM z h (Ga (sl z f l)) (Ga (.int k i))=Ga ⟨.aq (f x),Gd,Gb,h⟩:=by
 unfold ql at M;by_cases hi:0<=i
 .rw[if_pos hi]at M;obtain⟨n,rfl⟩:∃n:Nat,i=(n:Int):=⟨i.toNat,by omega⟩;exact jzd (by simpa using M)
 .rw[if_neg hi]at M;cases M
theorem yp {s:aj}{k:IntKind}{i:Int}{c:UInt8}(M:ql s i=Ga c):BH h (Ga (.str s)) (Ga (.int k i))=Ga ⟨.int .u8 (c.toNat:Int),Gd,Gb,h⟩:=by
 unfold ql at M;by_cases hi:0<=i
 .rw[if_pos hi]at M;obtain⟨n,rfl⟩:∃n:Nat,i=(n:Int):=⟨i.toNat,by omega⟩;exact ji0 (by simpa using M)
 .rw[if_neg hi]at M;cases M
end
section
variable {h:qh}
end
def Af (k:IntKind)(x y:Int):Option Int:=if y=0 then Gb else Ga (qd k (x.tdiv y))
def sC (x y:Int):Option Int:=if y=0 then Gb else Ga (x.tmod y)
theorem jc6 {k:IntKind}{x y v:Int}(h:Af k x y=Ga v):yb .quo (.int k x) (.int k y)=Ga (.int k v):=by
 unfold Af at h;by_cases hy:y=0
 .rw[if_pos hy]at h;cases h
 .rw[if_neg hy]at h;cases h
  have:(y == 0)=Gd:=by simp[hy]
  simp[yb,ox,this]
theorem PB {k:IntKind}{x y v:Int}(h:sC x y=Ga v):yb .rem (.int k x) (.int k y)=Ga (.int k v):=by
 unfold sC at h;by_cases hy:y=0
 .rw[if_pos hy]at h;cases h
 .rw[if_neg hy]at h;cases h
  have:(y == 0)=Gd:=by simp[hy]
  simp[yb,ox,this]
def gA (a b:aj):Option aj:=if a.length+b.length<=4611686018427387904 then Ga (a++b)else Gb
theorem lA {a b v:aj}(h:gA a b=Ga v):yb .add (.str a) (.str b)=Ga (.str v):=by
 unfold gA at h;by_cases hl:a.length+b.length<=4611686018427387904
 .rw[if_pos hl]at h;cases h;simp only[yb,FC,nY,hl,decide_true,cond_true]
 .rw[if_neg hl]at h;cases h
section
variable {p:j8}{xc:XC}{h0:Nat}{al:ak Nat}{e:Env}{h:qh}
def XI (k:IntKind)(h:qh)(x:Option AVal):Option bA:=match x with
 |some (.int _ n)=>val h (.int k (qd k n))|_=>Gb
theorem zbh {k k':IntKind}{n:Int}:XI k h (Ga (.int k' n))=Ga ⟨.int k (qd k n),Gd,Gb,h⟩:=rfl
theorem zmb {k:IntKind}{x:jw}:qf p xc h0 al e h (.conv k x)=XI k h (qi e x):=by
 simp only[qf,qm,XI]
 cases qi e x with
 |none=>rfl|some v=>cases v<;>rfl
def PD (h:qh)(x:Option AVal):Option bA:=match x with
 |some (.str s)=>val h (.str s)|some (.int _ n)=>val h (.str (Utf8.encode n).data.toList)|_=>Gb
theorem jz4 {k:IntKind}{n:Int}:PD h (Ga (.int k n))=Ga ⟨.str (Utf8.encode n).data.toList,Gd,Gb,h⟩:=rfl
theorem jz2 {s:aj}:PD h (Ga (.str s))=Ga ⟨.str s,Gd,Gb,h⟩:=rfl
theorem zbg {x:jw}:qf p xc h0 al e h (.eL x)=PD h (qi e x):=by
 simp only[qf,qm,PD]
 cases qi e x with
 |none=>rfl|some v=>cases v<;>rfl
def KG (h:qh)(x:Option AVal):Option bA:=match x with
 |some (.ptr b o)=>val h (.ptr b o)|some (.aq v)=>val h (.aq v)|some (.fn (.func f) a b)=>val h (.fn (.func f) a b)|_=>Gb
theorem jyq {b o:Nat}:KG h (Ga (.ptr b o))=Ga ⟨.ptr b o,Gd,Gb,h⟩:=rfl
theorem jv3 {v:AVal}:KG h (Ga (.aq v))=Ga ⟨.aq v,Gd,Gb,h⟩:=rfl
theorem j4r {f:Nat}{a b:List AVal}:KG h (Ga (.fn (.func f) a b))=Ga ⟨.fn (.func f) a b,Gd,Gb,h⟩:=rfl
theorem j95 {x:jw}:qf p xc h0 al e h (.nilCheck x)=KG h (qi e x):=by
 simp only[qf,qm,KG];rfl
def XJ (agg:Bool)(off n:Nat)(h:qh)(x:Option AVal):Option bA:=match x with
 |some (.agg cs)=>hJ h (Go.Abs.part agg cs off n)|_=>Gb
theorem j6p {agg:Bool}{off n:Nat}{cs:List AVal}:XJ agg off n h (Ga (.agg cs))=hJ h (Go.Abs.part agg cs off n):=rfl
theorem zl2 {agg:Bool}{off n:Nat}{x:jw}:qf p xc h0 al e h (.field agg off n x)=XJ agg off n h (qi e x):=by
 simp only[qf,qm,XJ]
 cases qi e x with
 |none=>rfl|some v=>cases v<;>rfl
def zmw (agg:Bool)(len n:Nat)(h:qh)(x i:Option AVal):Option bA:=match x,i with
 |some (.agg cs),Ga j=>(match idx len j with
  |some j=>hJ h (Go.Abs.part agg cs (j*n) n)
  |none=>Gb)
 |_,_=>Gb
end
section
variable {p:j8}{xc:XC}{h0:Nat}{al:ak Nat}{e:Env}{h:qh}{α:Type}
def lz (n mV:Nat):Option Int->Option Nat
 |none=>Ga mV
 |some i=>if 0<=i/\i<=n then Ga i.toNat else Gb
def fY (s:List α)(lo hi:Option Int):Option (List α):=match lz s.length s.length hi with
 |some j=>(match lz j 0 lo with
  |some i=>Ga ((s.take j).drop i)
  |none=>Gb)
 |none=>Gb
def n8 (o:Option (List α))(lo hi:Option Int):Option (Option (List α)):=match fY (o.getD []) lo hi with
 |some l=>Ga (o.map fun _=>l)|none=>Gb
def ri (mV n:Nat):Option (Option AVal)->Option Nat
 |none=>Ga mV|some (Ga v)=>AQ n v|some Gb=>Gb
theorem jrs {mV n:Nat}{x:Option jw}:fS e mV n x=ri mV n (x.map (qi e)):=by
 cases x with
 |none=>rfl|some x=>simp only[fS,Iu,ri];cases qi e x<;>rfl
theorem ju3 {n d:Nat}{k:IntKind}{i:Int}:AQ n (.int k i)=lz n d (Ga i):=by
 unfold AQ lz
 cases i with
 |ofNat m=>
  simp only[];by_cases hm:m<=n
  .rw[if_pos ⟨by simp,by simpa using hm⟩,Nat.ble_eq_true_of_le hm];rfl
  .rw[if_neg (by simp;omega)]
   cases hb:Ij m n with
   |true=>exact absurd (Nat.le_of_ble_eq_true hb) hm|false=>rfl
 |negSucc m=>simp
def KH (k:IntKind):Option Int->Option (Option AVal)
 |none=>Gb|some i=>Ga (Ga (.int k i))
theorem XK {d n:Nat}{k:IntKind}{x:Option Int}:ri d n (KH k x)=lz n d x:=by
 cases x with
 |none=>rfl|some i=>exact ju3
def qQ (sz:Nat)(h:qh)(x:Option AVal)(lo hi:Option (Option AVal)):Option bA:=match x with
 |some (.list n dm xs)=>bif H2 sz dm||xs.isEmpty then(match ri xs.length xs.length hi with
  |some j=>(match ri 0 j lo with
   |some i=>val h (.list n dm ((xs.take j).drop i))
   |none=>Gb)
  |none=>Gb)else Gb
 |some (.ms b o len)=>(match ri len len hi with
  |some j=>(match ri 0 j lo with
   |some i=>bif H2 i 0||Nat.blt i j then val h (.ms b (o+i*sz) (j-i))else Gb
   |none=>Gb)
  |none=>Gb)
 |some (.az b bS len)=>(match ri len len hi with
  |some j=>(match ri 0 j lo with
   |some i=>bif H2 i 0 then val h (.az b bS j)else Gb
   |none=>Gb)
  |none=>Gb)
 |_=>Gb
attribute [go_sem] j43 zlp zha jwk jwg j4q jrw jqi zme jv7 jt4 jve jsg jr1 zmu zmy zm7 j4l zbh zmb jz4 jz2 zbg jyq jv3 j4r j95 j6p zl2
attribute [go_sem] Option.map_some Option.map_none
theorem zl6 {sz:Nat}{x:jw}{lo hi:Option jw}:qf p xc h0 al e h (.slice sz x lo hi)=qQ sz h (qi e x) (lo.map (qi e)) (hi.map (qi e)):=by
 simp only[qf,qm,qQ,jrs]
 cases qi e x with
 |none=>rfl|some v=>cases v<;>rfl
theorem XL {z:Nat}{k k':IntKind}{f:α->AVal}{o v:Option (List α)}{lo hi:Option Int}(hv:n8 o lo hi=Ga v):qQ z h (Ga (sl z f o)) (KH k lo) (KH k' hi)=Ga ⟨sl z f v,Gd,Gb,h⟩:=by
 unfold n8 fY at hv
 cases o with
 |none=>
  simp only[sl,qQ,Io,Ig,cond_true,XK];simp only[Ip]at hv
  cases Y:lz ([]:List α).length ([]:List α).length hi with
  |none=>rw[Y]at hv;cases hv
  |some j=>
   rw[Y]at hv;simp only[]at hv
   cases I:lz j 0 lo with
   |none=>rw[I]at hv;cases hv
   |some i=>
    rw[I]at hv;cases hv;simp only[Hq]at Y;simp only[Hq,Y,I,List.take_nil,List.drop_nil];rfl
 |some l=>
  simp only[sl,qQ,OU,decide_true,Ik,cond_true,XK,Ii];simp only[Ir]at hv
  cases Y:lz l.length l.length hi with
  |none=>rw[Y]at hv;cases hv
  |some j=>
   rw[Y]at hv;simp only[]at hv
   cases I:lz j 0 lo with
   |none=>rw[I]at hv;cases hv
   |some i=>
    rw[I]at hv;cases hv;simp only[I,val,Iu,List.map_drop,List.map_take]
theorem q7d {z:Nat}{k k':IntKind}{f:α->AVal}{o v:Option (List α)}{lo hi:Int}(hv:n8 o (Ga lo) (Ga hi)=Ga v):qQ z h (Ga (sl z f o)) (Ga (Ga (.int k lo))) (Ga (Ga (.int k' hi)))=Ga ⟨sl z f v,Gd,Gb,h⟩:=XL hv
theorem jcl {z:Nat}{k:IntKind}{f:α->AVal}{o v:Option (List α)}{lo:Int}(hv:n8 o (Ga lo) Gb=Ga v):qQ z h (Ga (sl z f o)) (Ga (Ga (.int k lo))) Gb=Ga ⟨sl z f v,Gd,Gb,h⟩:=XL (k':=k) hv
theorem juh {z:Nat}{k:IntKind}{f:α->AVal}{o v:Option (List α)}{hi:Int}(hv:n8 o Gb (Ga hi)=Ga v):qQ z h (Ga (sl z f o)) Gb (Ga (Ga (.int k hi)))=Ga ⟨sl z f v,Gd,Gb,h⟩:=XL (k:=k) hv
def Ck (h:qh)(x:Option AVal)(lo hi:Option (Option AVal)):Option bA:=match x with
 |some (.str s)=>(match ri s.length s.length hi with
  |some j=>(match ri 0 j lo with
   |some i=>val h (.str ((s.take j).drop i))
   |none=>Gb)
  |none=>Gb)
 |_=>Gb
theorem j93 {x:jw}{lo hi:Option jw}:qf p xc h0 al e h (.dN x lo hi)=Ck h (qi e x) (lo.map (qi e)) (hi.map (qi e)):=by
 simp only[qf,qm,Ck,jrs]
 cases qi e x with
 |none=>rfl|some v=>cases v<;>rfl
theorem XM {k k':IntKind}{s v:aj}{lo hi:Option Int}(hv:fY s lo hi=Ga v):Ck h (Ga (.str s)) (KH k lo) (KH k' hi)=Ga ⟨.str v,Gd,Gb,h⟩:=by
 unfold fY at hv;simp only[Ck,XK]
 cases Y:lz s.length s.length hi with
 |none=>rw[Y]at hv;cases hv
 |some j=>
  rw[Y]at hv;simp only[]at hv
  cases I:lz j 0 lo with
  |none=>rw[I]at hv;cases hv|some i=>rw[I]at hv;cases hv;simp only[I,val]
theorem GQ {k k':IntKind}{s v:aj}{lo hi:Int}(hv:fY s (Ga lo) (Ga hi)=Ga v):Ck h (Ga (.str s)) (Ga (Ga (.int k lo))) (Ga (Ga (.int k' hi)))=Ga ⟨.str v,Gd,Gb,h⟩:=XM hv
theorem y7 {k:IntKind}{s v:aj}{lo:Int}(hv:fY s (Ga lo) Gb=Ga v):Ck h (Ga (.str s)) (Ga (Ga (.int k lo))) Gb=Ga ⟨.str v,Gd,Gb,h⟩:=XM (k':=k) hv
theorem wh {k:IntKind}{s v:aj}{hi:Int}(hv:fY s Gb (Ga hi)=Ga v):Ck h (Ga (.str s)) Gb (Ga (Ga (.int k hi)))=Ga ⟨.str v,Gd,Gb,h⟩:=XM (k:=k) hv
end
section
variable {h:qh}{α:Type}
def zT (o:Option (List α))(ys:List α):Option (List α):=match o,ys with
 |none,[]=>Gb|o,ys=>Ga (o.getD []++ys)
def bB (o:Option (List α))(ys:List α):Option (Option (List α)):=if(o.getD []).length+ys.length<=1073741824 then Ga (zT o ys)else Gb
theorem XO {z b:Nat}{own:Option Nat}{f:α->AVal}{o:Option (List α)}{ys:List α}{v:Option (List α)}{y:AVal}(hz:0<z)(hb:b<=4096)(hy:yd z y=Ga (ys.map f))(hv:bB o ys=Ga v)
  (ho:o=Gb\/own.isSome=Ha):bV z b h own (Ga (sl z f o)) (Ga y)=Ga ⟨sl z f v,Ha,own,h⟩:=by
 unfold bB at hv;by_cases hl:(o.getD []).length+ys.length<=1073741824
 .rw[if_pos hl]at hv;cases hv
  cases o with
  |none=>
   simp only[sl,bV,bV.iU,hy,ct,Ik,Io,Ix,Ig,Hq,Ii,nY,vI,hz,hb,decide_true];simp only[Ip,Hq]at hl;simp only[hl,decide_true,Iy,Ig]
   cases ys with
   |nil=>rfl|cons y ys=>simp[vf,zT,sl]
  |some l=>
   have yX:own.isSome=Ha:=by rcases ho with h|h;cases h;exact h
   simp only[sl,bV,bV.iU,hy,ct,yX,Ig,OU,nY,vI,hz,hb,decide_true,Ik,Ii];simp only[Ir]at hl;simp only[hl,decide_true,Iy];simp[vf,zT,sl]
 .rw[if_neg hl]at hv;cases hv
theorem XP {z b t:Nat}{f:α->AVal}{o o2 v:Option (List α)}(hv:bB o (o2.getD [])=Ga v):bV (z+1) b h (Ga t) (Ga (sl (z+1) f o)) (Ga (sl (z+1) f o2))=ct (decide (b<=4096)) (Ga ⟨sl (z+1) f v,Ha,Ga t,h⟩):=by
 by_cases hb:b<=4096
 .rw[XO (by omega) hb Wp hv (.inr rfl)];simp[ct,hb]
 .have fW:decide (b<=4096)=Gd:=by simp[hb]
  rw[fW]
  cases o with
  |none=>simp[sl,bV,bV.iU,ct,hb,nY];split<;>rfl|some l=>simp[sl,bV,bV.iU,ct,hb,nY];split<;>rfl
theorem vL {z b t:Nat}{f:α->AVal}{x:α}{y:AVal}{o v:Option (List α)}(hz:0<z)(hy:yd z y=Ga [f x])(hv:bB o [x]=Ga v):bV z b h (Ga t) (Ga (sl z f o)) (Ga y)=ct (decide (b<=4096)) (Ga ⟨sl z f v,Ha,Ga t,h⟩):=by
 by_cases hb:b<=4096
 .rw[XO hz hb hy hv (.inr rfl)];simp[ct,hb]
 .have fW:decide (b<=4096)=Gd:=by simp[hb]
  rw[fW]
  cases o with
  |none=>simp[sl,bV,bV.iU,ct,hb,hy,nY]|some l=>simp[sl,bV,bV.iU,ct,hb,hy,nY]
theorem q4r {z b t:Nat}{f:α->AVal}{o2 v:Option (List α)}(hv:bB (Ga []) (o2.getD [])=Ga v):bV (z+1) b h (Ga t) (Ga (.list Gd (z+1) [])) (Ga (sl (z+1) f o2))=ct (decide (b<=4096)) (Ga ⟨sl (z+1) f v,Ha,Ga t,h⟩):=
 XP (o:=Ga []) hv
end
def qx (s:aj):AVal:=.str s
theorem j7v {h0:Nat}{al:ak Nat}{h:qh}{b:aj}:iu h0 al Gd 1 h (Ga (.aq (qx b)))=Ga ⟨.str b,Gd,Gb,h⟩:=rfl
theorem j7e {n z:Nat}{l:ak aj}:below n (sl z qx l)=Ha:=vH fun _=>rfl
theorem q15 {b t:Nat}{h:qh}{bb:Bool}{x:Int}{o v:ak Int}(hv:bB o [x]=Ga v):bV 1 b h (Ga t) (Ga (sl 1 zf o)) (Ga (.list bb 1 [.int .i64 x]))=ct (decide (b<=4096)) (Ga ⟨sl 1 zf v,Ha,Ga t,h⟩):=vL (by omega) rfl hv
theorem Pc {b t:Nat}{h:qh}{bb:Bool}{x:aj}{o v:ak aj}(hv:bB o [x]=Ga v):bV 1 b h (Ga t) (Ga (sl 1 qx o)) (Ga (.list bb 1 [.str x]))=ct (decide (b<=4096)) (Ga ⟨sl 1 qx v,Ha,Ga t,h⟩):=vL (by omega) rfl hv
theorem WK {p:j8}{xc:XC}{k:Nat}{args:List AVal}{v v':AVal}{o:Bool}{h:qh}(hp:p.cD k=Gb)(hc:ai p xc k args []=Ga (v,o,h))(hz:aX h v=Ga v')(hv:below 0 v'=Ha)(hl:v.cT=Ha):ae p xc k args=Ga (v',o):=by
 rw[je hp hc hz hv,hl,Ix]
section
variable {p:j8}{xc:XC}{h0:Nat}{al:ak Nat}{e:Env}{h:qh}{α:Type}
def wi (h0 r sz bytes:Nat)(zero:List AVal)(h:qh)(n c:Option AVal):Option bA:=match n,c with
 |some (.int .i64 (.ofNat n)),Ga (.int .i64 (.ofNat c))=>
  bif H2 n c&&Ij n 1073741824&&Ij bytes 4096&&H2 zero.length sz&&Nat.blt 0 sz&&zero.all qk then
   (match aQ h0 h r (.cells (cellsOf (List.replicate n zero).flatten))with
    |some h'=>val h' (.ms (h0+r) 0 n)
    |none=>Gb)else Gb
 |_,_=>Gb
theorem zlk {r sz b:Nat}{z:List AVal}{n c:jw}:qf p xc h0 al e h (.cj (Ga r) sz b z n c)=wi h0 r sz b z h (qi e n) (qi e c):=by
 simp only[qf,qo,wi];rfl
def Cl (h0 r sz bytes:Nat)(h:qh)(own:Option Nat)(x y:Option AVal):Option bA:=match x,y with
 |some (.list Gd dm []),Ga vy=>
  bif own.isSome&&H2 sz dm then
   (match yd sz vy with
    |some ys=>
     bif Ij ys.length 1073741824&&Ij bytes 4096&&Nat.blt 0 sz then
      (match aQ h0 h r (.cells (cellsOf (ys.flatMap AVal.flat)))with
       |some h'=>Ga ⟨.ms (h0+r) 0 ys.length,Gd,own,h'⟩
       |none=>Gb)
     else Gb
    |none=>Gb)
  else Gb
 |_,_=>Gb
theorem zcu {r sz b:Nat}{x y:jw}:qf p xc h0 al e h (.append (Ga r) sz b x y)=Cl h0 r sz b h (zu e x) (qi e x) (qi e y):=by
 simp only[qf,qo,Cl];rfl
def j03 (own:Option Nat)(v:AVal)(r:Option qh):Option bA:=match r with
 |some h'=>Ga ⟨v,Gd,own,h'⟩|none=>Gb
theorem j3x {own:Option Nat}{v:AVal}:j03 own v (Ga h)=Ga ⟨v,Gd,own,h⟩:=rfl
def PE (c:Option (List (AVal×Bool)))(off len:Nat):Option AVal:=match c with
 |some cs=>bif FD off len cs then Ga (.list Gd (cs.length / len) (nR (cs.length / len) len (cs.map (·.1))))else(match zm cs off len with
  |some vs=>Ga (.list Gd 1 vs)
  |none=>Gb)
 |none=>Gb
theorem GR {b o n:Nat}:aX h (.ms b o n)=PE (qv h b) o n:=by
 simp only[aX,ku,PE];rfl
theorem j6y {z:Nat}{f:α->AVal}{o:Option (List α)}:JV 0 Gd h (Ga (sl z f o))=Ga ⟨.bool o.isNone,Gd,Gb,h⟩:=by cases o<;>rfl
theorem tH {z b:Nat}{f:α->AVal}{x:α}{y:AVal}{o v:Option (List α)}(hz:0<z)(hy:yd z y=Ga [f x])(hn:o.isNone=Ha)(hv:bB o [x]=Ga v):bV z b h Gb (Ga (sl z f o)) (Ga y)=ct (decide (b<=4096)) (Ga ⟨sl z f v,Ha,Gb,h⟩):=by
 cases o with
 |some l=>cases hn
 |none=>
  by_cases hb:b<=4096
  .rw[XO hz hb hy hv (.inl rfl)];simp[ct,hb]
  .have fW:decide (b<=4096)=Gd:=by simp[hb]
   rw[fW];simp[sl,bV,bV.iU,ct,hb,hy,nY]
theorem q0g {b:Nat}{bb:Bool}{x:Int}{o v:ak Int}(hv:bB o [x]=Ga v)(hn:o.isNone=Ha):bV 1 b h Gb (Ga (sl 1 zf o)) (Ga (.list bb 1 [.int .i64 x]))=ct (decide (b<=4096)) (Ga ⟨sl 1 zf v,Ha,Gb,h⟩):=tH (by omega) rfl hn hv
attribute [go_sem] zl6 j93 j7v j7e zlk zcu j3x GR j6y
attribute [go_sem] Nat.le_refl
end
@[go_sem] theorem znd {h:qh}{a b c d:Int}:WN [.int,.int] Ha h (Ga (.agg [.int .i64 a,.int .i64 b])) (Ga (.agg [.int .i64 c,.int .i64 d]))=Ga ⟨.bool (!(decide (a=c)&&decide (b=d))),Gd,Gb,h⟩:=by
 show(match yx [.int,.int] [.int .i64 a,.int .i64 b] [.int .i64 c,.int .i64 d]with|some t=>val h (.bool (bif Ha then !t else t))|none=>Gb)=_
 have:yx [.int,.int] [.int .i64 a,.int .i64 b] [.int .i64 c,.int .i64 d]=Ga (decide (a=c)&&decide (b=d)):=by
  have e:∀x y:Int,(x == y)=decide (x=y):=fun x y=>by by_cases h:x=y<;>simp[h]
  simp only[yx,nQ,e,decide_true,cond_true];by_cases Y:a=c<;>by_cases I:b=d<;>simp[Y,I]
 rw[this];rfl
section
variable {p:j8}{xc:XC}{h0:Nat}{al:ak Nat}{e:Env}{h:qh}
end
def vd (p:j8)(more:AO)(op:Nat->Bool):j8:={ br:=p.br,cH:=p.cH,maps:=p.maps,cD:=fun k=>bif op k then Gb else match more k with
 |some f=>Ga f
 |none=>bif (p.br k).isSome||(p.cD k).isSome||(p.cH k).isSome then Ga fun args=>ae p (X p) k args else Gb }
theorem jqp {P:Program}{p:j8}{more:AO}{op:Nat->Bool}(hp:b8 P p)(hm:∀k f,more k=Ga f->Enters P k/\∀args v o,f args=Ga (v,o)->mC v=Ha->qp 0 args=Ha->IsoCall P k args v o):b8 P (vd p more op) where
 fn:=hp.fn
 maps:=hp.maps
 gd:=by
  intro k f hf
  cases ho:op k with
  |true=>
   have:(vd p more op).cD k=Gb:=by simp only[vd,ho,cond_true]
   rw[this]at hf;cases hf
  |false=>
  cases zG:more k with
  |some g=>
   have:(vd p more op).cD k=Ga g:=by simp only[vd,ho,cond_false,zG]
   rw[this]at hf;cases hf;exact hm k _ zG
  |none=>
   cases hk:((p.br k).isSome||(p.cD k).isSome||(p.cH k).isSome)with
   |false=>
    have:(vd p more op).cD k=Gb:=by simp only[vd,ho,zG,hk,cond_false]
    rw[this]at hf;cases hf
   |true=>
    have:(vd p more op).cD k=Ga fun args=>ae p (X p) k args:=by simp only[vd,ho,cond_false,zG,hk,cond_true]
    rw[this]at hf;cases hf;refine⟨?_,fun args v o h _ hb=>q7f hp h hb⟩;simp only[Bool.or_eq_true]at hk;rcases hk with(h|h)|h
    .obtain⟨af,ha⟩:=Hc.1 h;exact hp.enters ha
    .obtain⟨g,hg⟩:=Hc.1 h;exact(hp.gd k g hg).1
    .obtain⟨g,hg⟩:=Hc.1 h;exact(hp.fa k g hg).1
 mixed:=hp.mixed
 fa:=hp.fa
theorem za {i:Nat}(h:i<9223372036854775807):qd .i64 ((i:Int)+1)=((i+1:Nat):Int):=by
 rw[OS (by omega) (by omega)];rfl
variable {h:qh}
theorem XQ {b:Nat}{bb:Bool}{x:aj}{o v:ak aj}(hv:bB o [x]=Ga v)(hn:o.isNone=Ha):bV 1 b h Gb (Ga (sl 1 qx o)) (Ga (.list bb 1 [.str x]))=ct (decide (b<=4096)) (Ga ⟨sl 1 qx v,Ha,Gb,h⟩):=tH (by omega) rfl hn hv
theorem j1n {b pos:Nat}{s:aj}(hp:decide (pos<s.length)=Ha):vJ h b (Ga (.iter s pos))=iT (jy h b (.iter s (pos+(qj s pos).2))) (.aI [.bool Ha,.int .i64 pos,.int .i32 (qj s pos).1]):=jl1 (of_decide_eq_true hp)
theorem j1d {b pos:Nat}{s:aj}(hp:decide (pos<s.length)=Gd):vJ h b (Ga (.iter s pos))=Ga ⟨.aI [.bool Gd],Gd,Gb,h⟩:=jkk (of_decide_eq_false hp)
end Go.Z
end
