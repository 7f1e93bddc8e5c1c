/- What the line's functions compute, and the small functions of the checks. -/
import Derived.Test.YtoaianfagfampaaGreatDoorZM
import Derived.Test.YtoaianfagfampaaGreatDoorAbsL
set_option linter.all false
set_option maxRecDepth 100000
noncomputable section
open Option renaming some->Eb,none->Eg,getD_none->G8,getD_some->Ha,map_some->Hb
open Bool renaming false->Eh,true->Ep,or_true->G0,true_or->G5,and_true->Hc,and_self->Hd
open List renaming length_nil->E3,getElem?_eq_some_iff->E8,getElem?_eq_getElem->E9,length_map->G1,isEmpty_nil->G7
open Nat renaming beq->E4,ble->G4
namespace Go.Z
open Go Go.Abs
theorem sN {α:Type}{l:List α}{i:Nat}{x:α}(M:l[i]?=Eb x):l.drop i=x::l.drop (i+1):=by
 obtain⟨Y,I⟩:=E8.1 M;rw[List.drop_eq_getElem_cons Y,I]
theorem jfh {i:Nat}{n:Nat}(h:i<n)(hn:n<=9223372036854775807):qf .i64 ((i:Int)+1)=((i+1:Nat):Int):=by
 rw[MO (by omega) (by omega)];rfl
structure Nv where
 ly:aj
 values:ak Int
def UM (u:Nv):AVal:=.agg [.str u.ly,sl 1 zg u.values]
theorem j1q {u:Nv}:(UM u).flat=[.str u.ly,sl 1 zg u.values]:=rfl
def acc {α:Type}(z:Nat)(f:α->AVal)(l:List α):AVal:=match l with
 | []=>.list Ep 0 []|a::l=>.list Eh z ((a::l).map f)
def fR {α:Type}(l:List α):Bool:=!l.isEmpty
def jj {α:Type}(l:List α):Option (List α):=match l with
 | []=>Eg|a::l=>Eb (a::l)
theorem zbq {α:Type}{z:Nat}{f:α->AVal}:acc z f []=.list Ep 0 []:=rfl
theorem j9q {α:Type}:fR (α:=α) []=Eh:=rfl
theorem wi {α:Type}(l:List α)(x:α):fR (l++[x])=Ep:=by cases l<;>rfl
theorem juk {n:Nat}:lU n []=Ep:=rfl
theorem jre {n t:Nat}{v:AVal}{o:Bool}{e:Env}:lU n ((t,v,o)::e)=(below n v&&lU n e):=rfl
theorem jwo {h0:Nat}{al:ak Nat}{h:qi}{u:Nv}:kh h0 al Ep 2 h (Eb (.aq (UM u)))=Eb ⟨.agg [.str u.ly,sl 1 zg u.values],Eh,Eg,h⟩:=rfl
def pI (i:Nat)(x:Int):Bool:=decide (65<=x/\x<=90)||decide (97<=x/\x<=122)||(decide (i≠0)&&(decide (48<=x/\x<=57)||decide (x=95)))
theorem kinds (x:Int):x<=47\/(48<=x/\x<=57)\/(58<=x/\x<=64)\/(65<=x/\x<=90)\/(91<=x/\x<=94)\/x=95\/x=96\/(97<=x/\x<=122)\/123<=x:=by omega
def uQ (i:Nat):aj->Bool
 | []=>Ep|c::s=>pI i c.toNat&&uQ (i+1) s
def b6 (s:aj):Bool:=decide (s≠[])&&decide (s.length<=24)&&uQ 0 s
theorem jm6 {v:AVal}:qp 0 v []=[]:=rfl
theorem jkh {h:qi}{u:Nv}:Fg Eh 0 1 h (Eb (.aq (UM u)))=Eb ⟨.aq (.str u.ly),Eh,Eg,h⟩:=rfl
theorem zcq {n:Nat}{v:AVal}{h:qi}:qp n v h=bif G4 h.length n then h else bif below n v&&qr n (h.take n)then h.take n else h:=rfl
theorem jq9 {n:Nat}:qr n []=Ep:=rfl
theorem jqv {n:Nat}{b:bG}{h:qi}:qr n (b::h)=(ze n b&&qr n h):=rfl
theorem jp4 {n:Nat}{cs:List (AVal×Bool)}:ze n (.cells cs)=zn n cs:=rfl
theorem jo4 {n:Nat}:zn n []=Ep:=rfl
theorem jm5 {n:Nat}{v:AVal}{o:Bool}{cs:List (AVal×Bool)}:zn n ((v,o)::cs)=(below n v&&zn n cs):=rfl
def wJ (h0:Nat)(al:ak Nat)(sz:Nat)(h:qi)(x y:Option AVal):Option br:=match x,y with
  |some (.ms b o len),Eb vy=>bif j9 h0 al b then(match qy h b with
   |some cs=>(match Ac sz len vy with
    |some (n,vs)=>(match jr cs o vs with
     |some eE=>bif E4 vs.length (n*sz)then(match jx h b (.cells eE)with
      |some h'=>val h' (.int .i64 n)
      |none=>Eg)else Eg
     |none=>Eg)
    |none=>Eg)
   |none=>Eg)else Eg
  |_,_=>Eg
theorem zcw {p:j8}{xc:XC}{h0:Nat}{al:ak Nat}{e:Env}{h:qi}{sz:Nat}{x y:jq}:qg p xc h0 al e h (.copy sz x y)=wJ h0 al sz h (qj e x) (qj e y):=rfl
theorem zdi {k:IntKind}{x:Int}:xn .neg (.int k x)=Eb (.int k (qf k (0-x))):=rfl
def M8 (ks:List Kd)(neq:Bool)(h:qi)(x y:Option AVal):Option br:=match x,y with
  |some (.agg a),Eb (.agg b)=>bif E4 a.length ks.length&&E4 b.length ks.length then(match yi ks a b with
   |some t=>val h (.bool (bif neq then !t else t))
   |none=>Eg)else Eg
  |_,_=>Eg
theorem zdh {p:j8}{xc:XC}{h0:Nat}{al:ak Nat}{e:Env}{h:qi}{ks:List Kd}{neq:Bool}{x y:jq}:qg p xc h0 al e h (.eqs ks neq x y)=M8 ks neq h (qj e x) (qj e y):=rfl
def conv (f g:Nat->Nat):Nat->Nat
 |0=>f 0*g 0
 |s+1=>f 0*g (s+1)+conv (fun k=>f (k+1)) g s
def jy0 (b:Bool):AVal:=.bool b
theorem jwh {h0:Nat}{al:ak Nat}{h:qi}{b:Bool}:kh h0 al Eh 1 h (Eb (.aq (jy0 b)))=Eb ⟨.bool b,Eh,Eg,h⟩:=rfl
def qc {α β:Type}(x:Option α)(f:α->Option β):Option β:=match x with
 |some a=>f a|none=>Eg
@[simp] theorem qk {α β:Type}{a:α}{f:α->Option β}:qc (Eb a) f=f a:=rfl
@[simp] theorem j67 {α β:Type}{f:α->Option β}:qc Eg f=Eg:=rfl
theorem qd {α β:Type}{x:Option α}{f:α->Option β}{r:β}(h:qc x f=Eb r):∃a,x=Eb a/\f a=Eb r:=by
 cases x with
 |none=>cases h|some a=>exact⟨a,rfl,h⟩
theorem qe {α:Type}{c:Bool}{a b r:α}(h:cond c a b=r):(c=Ep/\a=r)\/(c=Eh/\b=r):=by
 cases c
 .exact .inr ⟨rfl,h⟩
 .exact .inl ⟨rfl,h⟩
def oj {σ δ:Type}(f:σ->Option (σ⊕δ)):Nat->σ->Option δ
 |0,_=>Eg
 |n+1,s=>match f s with
  |none=>Eg|some (.inl s')=>oj f n s'|some (.inr d)=>Eb d
theorem q8a {σ δ:Type}{f:σ->Option (σ⊕δ)}{d:δ}:∀ {n:Nat} {s:σ},oj f n s=Eb d->oj f (n+1) s=Eb d
 |0,_,h=>by cases h
 |n+1,s,h=>by
  rw[oj]at h ⊢
  cases hf:f s with
  |none=>rw[hf]at h;cases h
  |some x=>
   rw[hf]at h
   cases x with
   |inl s'=>exact q8a h|inr d'=>exact h
theorem jfg {σ δ:Type}{f:σ->Option (σ⊕δ)}{d:δ}{n m:Nat}{s:σ}(hm:n<=m)(h:oj f n s=Eb d):oj f m s=Eb d:=by
 induction hm with
 |refl=>exact h|step _ ih=>exact q8a ih
open Classical in
def bu {σ δ:Type}(f:σ->Option (σ⊕δ))(s:σ):Option δ:=
 if h:∃d n,oj f n s=Eb d then Eb (Classical.choose h)else Eg
theorem FG {σ δ:Type}{f:σ->Option (σ⊕δ)}{s:σ}{d:δ}:bu f s=Eb d↔∃n,oj f n s=Eb d:=by
 unfold bu;constructor
 .intro h;split at h
  .rename_i hh;cases h;exact Classical.choose_spec hh
  .cases h
 .rintro ⟨n,hn⟩;have hh:∃d n,oj f n s=Eb d:=⟨d,n,hn⟩;rw[dif_pos hh];obtain⟨m,hm⟩:=Classical.choose_spec hh;have Y:=jfg (Nat.le_max_left n m) hn;have I:=jfg (Nat.le_max_right n m) hm;rw[Y]at I;exact I.symm
theorem kc {σ δ:Type}{f:σ->Option (σ⊕δ)}{s s':σ}(h:f s=Eb (.inl s')):bu f s=bu f s':=by
 apply Option.ext;intro d;rw[FG,FG];constructor
 .rintro ⟨n,hn⟩
  cases n with
  |zero=>cases hn|succ n=>rw[oj,h]at hn;exact⟨n,hn⟩
 .rintro ⟨n,hn⟩;exact⟨n+1,by rw[oj,h];exact hn⟩
theorem zf {σ δ:Type}{f:σ->Option (σ⊕δ)}{s:σ}{d:δ}(h:f s=Eb (.inr d)):bu f s=Eb d:=
 FG.2 ⟨1,by rw[oj,h]⟩
theorem jaq {α γ σ δ ε:Type}(l:List α)(f:σ->Option (σ⊕δ))(mk:Nat->γ->σ)(g:Nat->γ->α->γ⊕ε)(En:γ->δ)(Ex:ε->δ)(Inv:Nat->γ->Prop)
  (dA:∀s,Inv l.length s->f (mk l.length s)=Eb (.inr (En s)))
  (cr:∀i s x,l[i]?=Eb x->i<l.length->Inv i s->match g i s x with
   | .inl s'=>Inv (i+1) s'/\f (mk i s)=Eb (.inl (mk (i+1) s'))
   | .inr d=>f (mk i s)=Eb (.inr (Ex d))):
  ∀(k i:Nat) (s:γ),i+k=l.length->Inv i s->bu f (mk i s)=Eb (match vY g i s (l.drop i)with
   | .inl s=>En s
   | .inr d=>Ex d)
 |0,i,s,hi,hv=>by
  have gf:i=l.length:=by omega
  subst gf;rw[List.drop_eq_nil_of_le (Nat.le_refl _),zf (dA s hv)];rfl
 |k+1,i,s,hi,hv=>by
  obtain⟨x,M⟩:∃x,l[i]?=Eb x:=⟨_,E9 (by omega)⟩;have G:=cr i s x M (by omega) hv;rw[sN M];simp only[vY]
  cases hg:g i s x with
  |inl s'=>
   rw[hg]at G;obtain⟨vO,Y⟩:=G;rw[kc Y];exact jaq l f mk g En Ex Inv dA cr k (i+1) s' (by omega) vO
  |inr d=>
   rw[hg]at G;rw[zf G]
theorem q8c {α γ σ δ ε:Type}(l:List α)(f:σ->Option (σ⊕δ))(mk:Nat->γ->σ)(g:Nat->γ->α->γ⊕ε)(En:γ->δ)(Ex:ε->δ)(Inv:Nat->γ->Prop)(s:γ)
  (dA:∀s,Inv l.length s->f (mk l.length s)=Eb (.inr (En s)))
  (cr:∀i s x,l[i]?=Eb x->i<l.length->Inv i s->match g i s x with
   | .inl s'=>Inv (i+1) s'/\f (mk i s)=Eb (.inl (mk (i+1) s'))
   | .inr d=>f (mk i s)=Eb (.inr (Ex d))) (hv:Inv 0 s):
  bu f (mk 0 s)=Eb (match vY g 0 s l with
   | .inl s=>En s
   | .inr d=>Ex d):=by
 have:=jaq l f mk g En Ex Inv dA cr l.length 0 s (by omega) hv;rwa [List.drop_zero]at this
theorem q91 {α ε:Type}(l:List α)(f:Int->Option (Int⊕(ε⊕Int)))(P:Nat->α->Prop)
  (dA:f (l.length:Int)=Eb (.inr (.inr (l.length:Int))))
  (cr:∀(i:Nat) (x:α),l[i]?=Eb x->(f (i:Int)=Eb (.inl ((i+1:Nat):Int))/\P i x)\/∃e,f (i:Int)=Eb (.inr (.inl e))):
  (∃e,bu f 0=Eb (.inl e))\/(bu f 0=Eb (.inr (l.length:Int))/\∀(i:Nat) (x:α),l[i]?=Eb x->P i x):=by
 have key:∀(k i:Nat),i+k=l.length->(∀(j:Nat) (x:α),j<i->l[j]?=Eb x->P j x) ->
   (∃e,bu f (i:Int)=Eb (.inl e))\/(bu f (i:Int)=Eb (.inr (l.length:Int))/\∀(i:Nat) (x:α),l[i]?=Eb x->P i x):=by
  intro k
  induction k with
  |zero=>
   intro i hi hp
   have:i=l.length:=by omega
   subst this;exact .inr ⟨zf dA,fun j x M=>hp j x (E8.1 M).1 M⟩
  |succ k ih=>
   intro i hi hp;obtain⟨x,M⟩:∃x,l[i]?=Eb x:=⟨_,E9 (by omega)⟩;rcases cr i x M with⟨Y,I⟩|⟨e,Y⟩
   .rw[kc Y];refine ih (i+1) (by omega) fun j y hj hy=>?_;by_cases HD:j=i
    .subst HD;rw[M]at hy;cases hy;exact I
    .exact hp j y (by omega) hy
   .exact .inl ⟨e,zf Y⟩
 exact key l.length 0 (by omega) fun j x hj=>absurd hj (by omega)
def js {σ δ:Type}(p:j8)(c:aQ)(St:σ->bj)(Ex:δ->jc×bj)(s:σ)(r:σ⊕δ):Prop:=match r with
 | .inl s'=>∃bN,X p c (St s)=Eb (.normal,bN)/\gc (St s).heap.length bN=St s'| .inr d=>X p c (St s)=Eb (Ex d)
theorem z7 {σ δ:Type}{p:j8}{c:aQ}{St:σ->bj}{Ex:δ->jc×bj}{s s':σ}{bN:bj}(M:X p c (St s)=Eb (.normal,bN))(hc:gc (St s).heap.length bN=St s'):js p c St Ex s (.inl s'):=⟨bN,M,hc⟩
theorem qw {σ δ:Type}{p:j8}{c:aQ}{St:σ->bj}{Ex:δ->jc×bj}{s:σ}{d:δ}(M:X p c (St s)=Eb (Ex d)):js p c St Ex s (.inr d):=M
theorem jmv {σ δ:Type}{p:j8}{c:aQ}{St:σ->bj}{Ex:δ->jc×bj}{f:σ->Option (σ⊕δ)}(hb:∀s r,f s=Eb r->js p c St Ex s r)(hX:∀d,(Ex d).1≠.normal){d:δ}:
  ∀ {n:Nat} {s:σ},oj f n s=Eb d->X p (.loop c) (St s)=Eb (Ex d)
 |0,_,h=>by cases h
 |n+1,s,h=>by
  rw[oj]at h;rw[S7]
  cases hf:f s with
  |none=>rw[hf]at h;cases h
  |some x=>
   rw[hf]at h;have G:=hb s x hf
   cases x with
   |inl s'=>
    obtain⟨bN,Y,I⟩:=G;rw[Y,q65,I];exact jmv hb hX h
   |inr d'=>
    cases h;rw[show X p c (St s)=Eb (Ex d)from G,jel (hX d)]
theorem nC {σ δ:Type}{p:j8}{c:aQ}{St:σ->bj}{Ex:δ->jc×bj}{f:σ->Option (σ⊕δ)}(hb:∀s r,f s=Eb r->js p c St Ex s r)(hX:∀d,(Ex d).1≠.normal){s:σ}{d:δ}(h:bu f s=Eb d):X p (.loop c) (St s)=Eb (Ex d):=by
 obtain⟨n,hn⟩:=FG.1 h;exact jmv hb hX hn
theorem zq {σ δ:Type}{p:j8}{c:aQ}{St:σ->bj}{Ex:δ->jc×bj}{f:σ->Option (σ⊕δ)}(hb:∀s r,f s=some r->js p c St Ex s r){s:σ}{d:δ}(h:bu f s=some d)(hX:∀d,(Ex d).1≠.normal:=by first|exact fun d hh=>by cases hh|(intro d;rcases d with d|d|d<;>(intro hh;cases hh))|(intro d;rcases d with d|d<;>(intro hh;cases hh))):X p (.loop c) (St s)=some (Ex d):=nC hb hX h
section
variable {h0:Nat}{al:ak Nat}{h:qi}{α:Type}
def qo (l:List α)(i:Int):Option α:=if 0<=i then l[i.toNat]? else Eg
theorem Fl {l:List α}{i:Nat}:qo l (i:Int)=l[i]?:=by simp[qo]
theorem jg {z:Nat}{f:α->AVal}{l:Option (List α)}{k:IntKind}{i:Int}{x:α}(M:qo (l.getD []) i=Eb x):iR z h (Eb (sl z f l)) (Eb (.int k i))=Eb ⟨.aq (f x),Eh,Eg,h⟩:=by
 unfold qo at M;by_cases hi:0<=i
 .rw[if_pos hi]at M;obtain⟨n,rfl⟩:∃n:Nat,i=(n:Int):=⟨i.toNat,by omega⟩;exact jte (by simpa using M)
 .rw[if_neg hi]at M;cases M
theorem Bb {s:aj}{k:IntKind}{i:Int}{c:UInt8}(M:qo s i=Eb c):A6 h (Eb (.str s)) (Eb (.int k i))=Eb ⟨.int .u8 (c.toNat:Int),Eh,Eg,h⟩:=by
 unfold qo at M;by_cases hi:0<=i
 .rw[if_pos hi]at M;obtain⟨n,rfl⟩:∃n:Nat,i=(n:Int):=⟨i.toNat,by omega⟩;exact jgo (by simpa using M)
 .rw[if_neg hi]at M;cases M
end
section
variable {h:qi}
end
def yR (k:IntKind)(x y:Int):Option Int:=if y=0 then Eg else Eb (qf k (x.tdiv y))
def ol (x y:Int):Option Int:=if y=0 then Eg else Eb (x.tmod y)
theorem q9t {k:IntKind}{x y v:Int}(h:yR k x y=Eb v):z8 .quo (.int k x) (.int k y)=Eb (.int k v):=by
 unfold yR at h;by_cases hy:y=0
 .rw[if_pos hy]at h;cases h
 .rw[if_neg hy]at h;cases h
  have:(y == 0)=Eh:=by simp[hy]
  simp[z8,nG,this]
theorem FH {k:IntKind}{x y v:Int}(h:ol x y=Eb v):z8 .rem (.int k x) (.int k y)=Eb (.int k v):=by
 unfold ol at h;by_cases hy:y=0
 .rw[if_pos hy]at h;cases h
 .rw[if_neg hy]at h;cases h
  have:(y == 0)=Eh:=by simp[hy]
  simp[z8,nG,this]
def kF (a b:aj):Option aj:=if a.length+b.length<=4611686018427387904 then Eb (a++b)else Eg
theorem rh {a b v:aj}(h:kF a b=Eb v):z8 .add (.str a) (.str b)=Eb (.str v):=by
 unfold kF at h;by_cases hl:a.length+b.length<=4611686018427387904
 .rw[if_pos hl]at h;cases h;simp only[z8,EB,np,hl,decide_true,cond_true]
 .rw[if_neg hl]at h;cases h
section
variable {p:j8}{xc:XC}{h0:Nat}{al:ak Nat}{e:Env}{h:qi}
def UN (k:IntKind)(h:qi)(x:Option AVal):Option br:=match x with
 |some (.int _ n)=>val h (.int k (qf k n))|_=>Eg
theorem j2h {k k':IntKind}{n:Int}:UN k h (Eb (.int k' n))=Eb ⟨.int k (qf k n),Eh,Eg,h⟩:=rfl
theorem zcg {k:IntKind}{x:jq}:qg p xc h0 al e h (.conv k x)=UN k h (qj e x):=by
 simp only[qg,qn,UN]
 cases qj e x with
 |none=>rfl|some v=>cases v<;>rfl
def Nw (h:qi)(x:Option AVal):Option br:=match x with
 |some (.str s)=>val h (.str s)|some (.int _ n)=>val h (.str (Utf8.encode n).data.toList)|_=>Eg
theorem jsw {k:IntKind}{n:Int}:Nw h (Eb (.int k n))=Eb ⟨.str (Utf8.encode n).data.toList,Eh,Eg,h⟩:=rfl
theorem ju1 {s:aj}:Nw h (Eb (.str s))=Eb ⟨.str s,Eh,Eg,h⟩:=rfl
theorem j2x {x:jq}:qg p xc h0 al e h (.eG x)=Nw h (qj e x):=by
 simp only[qg,qn,Nw]
 cases qj e x with
 |none=>rfl|some v=>cases v<;>rfl
def Jz (h:qi)(x:Option AVal):Option br:=match x with
 |some (.ptr b o)=>val h (.ptr b o)|some (.aq v)=>val h (.aq v)|some (.fn (.func f) a b)=>val h (.fn (.func f) a b)|_=>Eg
theorem jsa {b o:Nat}:Jz h (Eb (.ptr b o))=Eb ⟨.ptr b o,Eh,Eg,h⟩:=rfl
theorem jq2 {v:AVal}:Jz h (Eb (.aq v))=Eb ⟨.aq v,Eh,Eg,h⟩:=rfl
theorem jwe {f:Nat}{a b:List AVal}:Jz h (Eb (.fn (.func f) a b))=Eb ⟨.fn (.func f) a b,Eh,Eg,h⟩:=rfl
theorem jx2 {x:jq}:qg p xc h0 al e h (.nilCheck x)=Jz h (qj e x):=by
 simp only[qg,qn,Jz];rfl
def UO (agg:Bool)(off n:Nat)(h:qi)(x:Option AVal):Option br:=match x with
 |some (.agg cs)=>gF h (Go.Abs.part agg cs off n)|_=>Eg
theorem jxu {agg:Bool}{off n:Nat}{cs:List AVal}:UO agg off n h (Eb (.agg cs))=gF h (Go.Abs.part agg cs off n):=rfl
theorem zby {agg:Bool}{off n:Nat}{x:jq}:qg p xc h0 al e h (.field agg off n x)=UO agg off n h (qj e x):=by
 simp only[qg,qn,UO]
 cases qj e x with
 |none=>rfl|some v=>cases v<;>rfl
def zct (agg:Bool)(len n:Nat)(h:qi)(x i:Option AVal):Option br:=match x,i with
 |some (.agg cs),Eb j=>(match idx len j with
  |some j=>gF h (Go.Abs.part agg cs (j*n) n)
  |none=>Eg)
 |_,_=>Eg
end
section
variable {p:j8}{xc:XC}{h0:Nat}{al:ak Nat}{e:Env}{h:qi}{α:Type}
def mL (n lX:Nat):Option Int->Option Nat
 |none=>Eb lX
 |some i=>if 0<=i/\i<=n then Eb i.toNat else Eg
def jN (s:List α)(lo hi:Option Int):Option (List α):=match mL s.length s.length hi with
 |some j=>(match mL j 0 lo with
  |some i=>Eb ((s.take j).drop i)
  |none=>Eg)
 |none=>Eg
def mH (o:Option (List α))(lo hi:Option Int):Option (Option (List α)):=match jN (o.getD []) lo hi with
 |some l=>Eb (o.map fun _=>l)|none=>Eg
def pL (lX n:Nat):Option (Option AVal)->Option Nat
 |none=>Eb lX|some (Eb v)=>Ab n v|some Eg=>Eg
theorem jmi {lX n:Nat}{x:Option jq}:fG e lX n x=pL lX n (x.map (qj e)):=by
 cases x with
 |none=>rfl|some x=>simp only[fG,Hb,pL];cases qj e x<;>rfl
theorem jn9 {n d:Nat}{k:IntKind}{i:Int}:Ab n (.int k i)=mL n d (Eb i):=by
 unfold Ab mL
 cases i with
 |ofNat m=>
  simp only[];by_cases hm:m<=n
  .rw[if_pos ⟨by simp,by simpa using hm⟩,Nat.ble_eq_true_of_le hm];rfl
  .rw[if_neg (by simp;omega)]
   cases hb:G4 m n with
   |true=>exact absurd (Nat.le_of_ble_eq_true hb) hm|false=>rfl
 |negSucc m=>simp
def JA (k:IntKind):Option Int->Option (Option AVal)
 |none=>Eg|some i=>Eb (Eb (.int k i))
theorem UQ {d n:Nat}{k:IntKind}{x:Option Int}:pL d n (JA k x)=mL n d x:=by
 cases x with
 |none=>rfl|some i=>exact jn9
def nY (sz:Nat)(h:qi)(x:Option AVal)(lo hi:Option (Option AVal)):Option br:=match x with
 |some (.list n de xs)=>bif E4 sz de||xs.isEmpty then(match pL xs.length xs.length hi with
  |some j=>(match pL 0 j lo with
   |some i=>val h (.list n de ((xs.take j).drop i))
   |none=>Eg)
  |none=>Eg)else Eg
 |some (.ms b o len)=>(match pL len len hi with
  |some j=>(match pL 0 j lo with
   |some i=>bif E4 i 0||Nat.blt i j then val h (.ms b (o+i*sz) (j-i))else Eg
   |none=>Eg)
  |none=>Eg)
 |some (.az b bO len)=>(match pL len len hi with
  |some j=>(match pL 0 j lo with
   |some i=>bif E4 i 0 then val h (.az b bO j)else Eg
   |none=>Eg)
  |none=>Eg)
 |_=>Eg
attribute [go_sem] j1q zbq j9q juk jre jwo jm6 jkh zcq jq9 jqv jp4 jo4 jm5 zcw zdi zdh jwh j2h zcg jsw ju1 j2x jsa jq2 jwe jx2 jxu zby
attribute [go_sem] Option.map_some Option.map_none
theorem zb0 {sz:Nat}{x:jq}{lo hi:Option jq}:qg p xc h0 al e h (.slice sz x lo hi)=nY sz h (qj e x) (lo.map (qj e)) (hi.map (qj e)):=by
 simp only[qg,qn,nY,jmi]
 cases qj e x with
 |none=>rfl|some v=>cases v<;>rfl
theorem UR {z:Nat}{k k':IntKind}{f:α->AVal}{o v:Option (List α)}{lo hi:Option Int}(hv:mH o lo hi=Eb v):nY z h (Eb (sl z f o)) (JA k lo) (JA k' hi)=Eb ⟨sl z f v,Eh,Eg,h⟩:=by
 unfold mH jN at hv
 cases o with
 |none=>
  simp only[sl,nY,G7,G0,cond_true,UQ];simp only[G8]at hv
  cases Y:mL ([]:List α).length ([]:List α).length hi with
  |none=>rw[Y]at hv;cases hv
  |some j=>
   rw[Y]at hv;simp only[]at hv
   cases I:mL j 0 lo with
   |none=>rw[I]at hv;cases hv
   |some i=>
    rw[I]at hv;cases hv;simp only[E3]at Y;simp only[E3,Y,I,List.take_nil,List.drop_nil];rfl
 |some l=>
  simp only[sl,nY,Tk,decide_true,G5,cond_true,UQ,G1];simp only[Ha]at hv
  cases Y:mL l.length l.length hi with
  |none=>rw[Y]at hv;cases hv
  |some j=>
   rw[Y]at hv;simp only[]at hv
   cases I:mL j 0 lo with
   |none=>rw[I]at hv;cases hv
   |some i=>
    rw[I]at hv;cases hv;simp only[I,val,Hb,List.map_drop,List.map_take]
theorem q8b {z:Nat}{k k':IntKind}{f:α->AVal}{o v:Option (List α)}{lo hi:Int}(hv:mH o (Eb lo) (Eb hi)=Eb v):nY z h (Eb (sl z f o)) (Eb (Eb (.int k lo))) (Eb (Eb (.int k' hi)))=Eb ⟨sl z f v,Eh,Eg,h⟩:=UR hv
theorem jas {z:Nat}{k:IntKind}{f:α->AVal}{o v:Option (List α)}{lo:Int}(hv:mH o (Eb lo) Eg=Eb v):nY z h (Eb (sl z f o)) (Eb (Eb (.int k lo))) Eg=Eb ⟨sl z f v,Eh,Eg,h⟩:=UR (k':=k) hv
theorem ja1 {z:Nat}{k:IntKind}{f:α->AVal}{o v:Option (List α)}{hi:Int}(hv:mH o Eg (Eb hi)=Eb v):nY z h (Eb (sl z f o)) Eg (Eb (Eb (.int k hi)))=Eb ⟨sl z f v,Eh,Eg,h⟩:=UR (k:=k) hv
def FI (h:qi)(x:Option AVal)(lo hi:Option (Option AVal)):Option br:=match x with
 |some (.str s)=>(match pL s.length s.length hi with
  |some j=>(match pL 0 j lo with
   |some i=>val h (.str ((s.take j).drop i))
   |none=>Eg)
  |none=>Eg)
 |_=>Eg
theorem j12 {x:jq}{lo hi:Option jq}:qg p xc h0 al e h (.dI x lo hi)=FI h (qj e x) (lo.map (qj e)) (hi.map (qj e)):=by
 simp only[qg,qn,FI,jmi]
 cases qj e x with
 |none=>rfl|some v=>cases v<;>rfl
theorem jhk {k k':IntKind}{s v:aj}{lo hi:Option Int}(hv:jN s lo hi=Eb v):FI h (Eb (.str s)) (JA k lo) (JA k' hi)=Eb ⟨.str v,Eh,Eg,h⟩:=by
 unfold jN at hv;simp only[FI,UQ]
 cases Y:mL s.length s.length hi with
 |none=>rw[Y]at hv;cases hv
 |some j=>
  rw[Y]at hv;simp only[]at hv
  cases I:mL j 0 lo with
  |none=>rw[I]at hv;cases hv|some i=>rw[I]at hv;cases hv;simp only[I,val]
theorem vb {k:IntKind}{s v:aj}{lo:Int}(hv:jN s (Eb lo) Eg=Eb v):FI h (Eb (.str s)) (Eb (Eb (.int k lo))) Eg=Eb ⟨.str v,Eh,Eg,h⟩:=jhk (k':=k) hv
theorem BI {k:IntKind}{s v:aj}{hi:Int}(hv:jN s Eg (Eb hi)=Eb v):FI h (Eb (.str s)) Eg (Eb (Eb (.int k hi)))=Eb ⟨.str v,Eh,Eg,h⟩:=jhk (k:=k) hv
end
section
variable {h:qi}{α:Type}
def yB (o:Option (List α))(ys:List α):Option (List α):=match o,ys with
 |none,[]=>Eg|o,ys=>Eb (o.getD []++ys)
def bB (o:Option (List α))(ys:List α):Option (Option (List α)):=if(o.getD []).length+ys.length<=1073741824 then Eb (yB o ys)else Eg
theorem US {z b:Nat}{own:Option Nat}{f:α->AVal}{o:Option (List α)}{ys:List α}{v:Option (List α)}{y:AVal}(hz:0<z)(hb:b<=4096)(hy:yb z y=Eb (ys.map f))(hv:bB o ys=Eb v)
  (ho:o=Eg\/own.isSome=Ep):bR z b h own (Eb (sl z f o)) (Eb y)=Eb ⟨sl z f v,Ep,own,h⟩:=by
 unfold bB at hv;by_cases hl:(o.getD []).length+ys.length<=1073741824
 .rw[if_pos hl]at hv;cases hv
  cases o with
  |none=>
   simp only[sl,bR,bR.iz,hy,cm,G5,G7,Hc,G0,E3,G1,np,ur,hz,hb,decide_true];simp only[G8,E3]at hl;simp only[hl,decide_true,Hd,G0]
   cases ys with
   |nil=>rfl|cons y ys=>simp[tQ,yB,sl]
  |some l=>
   have xK:own.isSome=Ep:=by rcases ho with h|h;cases h;exact h
   simp only[sl,bR,bR.iz,hy,cm,xK,G0,Tk,np,ur,hz,hb,decide_true,G5,G1];simp only[Ha]at hl;simp only[hl,decide_true,Hd];simp[tQ,yB,sl]
 .rw[if_neg hl]at hv;cases hv
theorem UT {z b t:Nat}{f:α->AVal}{o o2 v:Option (List α)}(hv:bB o (o2.getD [])=Eb v):bR (z+1) b h (Eb t) (Eb (sl (z+1) f o)) (Eb (sl (z+1) f o2))=cm (decide (b<=4096)) (Eb ⟨sl (z+1) f v,Ep,Eb t,h⟩):=by
 by_cases hb:b<=4096
 .rw[US (by omega) hb TC hv (.inr rfl)];simp[cm,hb]
 .have fq:decide (b<=4096)=Eh:=by simp[hb]
  rw[fq]
  cases o with
  |none=>simp[sl,bR,bR.iz,cm,hb,np];split<;>rfl|some l=>simp[sl,bR,bR.iz,cm,hb,np];split<;>rfl
theorem uw {z b t:Nat}{f:α->AVal}{x:α}{y:AVal}{o v:Option (List α)}(hz:0<z)(hy:yb z y=Eb [f x])(hv:bB o [x]=Eb v):bR z b h (Eb t) (Eb (sl z f o)) (Eb y)=cm (decide (b<=4096)) (Eb ⟨sl z f v,Ep,Eb t,h⟩):=by
 by_cases hb:b<=4096
 .rw[US hz hb hy hv (.inr rfl)];simp[cm,hb]
 .have fq:decide (b<=4096)=Eh:=by simp[hb]
  rw[fq]
  cases o with
  |none=>simp[sl,bR,bR.iz,cm,hb,hy,np]|some l=>simp[sl,bR,bR.iz,cm,hb,hy,np]
theorem je2 {z b t:Nat}{f:α->AVal}{o2 v:Option (List α)}(hv:bB (Eb []) (o2.getD [])=Eb v):bR (z+1) b h (Eb t) (Eb (.list Eh (z+1) [])) (Eb (sl (z+1) f o2))=cm (decide (b<=4096)) (Eb ⟨sl (z+1) f v,Ep,Eb t,h⟩):=
 UT (o:=Eb []) hv
end
def jf (s:aj):AVal:=.str s
theorem jza {h0:Nat}{al:ak Nat}{h:qi}{b:aj}:kh h0 al Eh 1 h (Eb (.aq (jf b)))=Eb ⟨.str b,Eh,Eg,h⟩:=rfl
theorem jxk {n z:Nat}{l:ak aj}:below n (sl z jf l)=Ep:=uq fun _=>rfl
theorem qxa {b t:Nat}{h:qi}{bb:Bool}{x:Int}{o v:ak Int}(hv:bB o [x]=Eb v):bR 1 b h (Eb t) (Eb (sl 1 zg o)) (Eb (.list bb 1 [.int .i64 x]))=cm (decide (b<=4096)) (Eb ⟨sl 1 zg v,Ep,Eb t,h⟩):=uw (by omega) rfl hv
theorem T2 {b t:Nat}{h:qi}{bb:Bool}{x:aj}{o v:ak aj}(hv:bB o [x]=Eb v):bR 1 b h (Eb t) (Eb (sl 1 jf o)) (Eb (.list bb 1 [.str x]))=cm (decide (b<=4096)) (Eb ⟨sl 1 jf v,Ep,Eb t,h⟩):=uw (by omega) rfl hv
theorem q1i {p:j8}{xc:XC}{k:Nat}{args:List AVal}{v v':AVal}{o:Bool}{h:qi}(hp:p.di k=Eg)(hc:ai p xc k args []=Eb (v,o,h))(hz:aV h v=Eb v')(hv:below 0 v'=Ep)(hl:v.cP=Ep):ae p xc k args=Eb (v',o):=by
 rw[jo hp hc hz hv,hl,Hc]
section
variable {p:j8}{xc:XC}{h0:Nat}{al:ak Nat}{e:Env}{h:qi}{α:Type}
def vd (h0 r sz bytes:Nat)(zero:List AVal)(h:qi)(n c:Option AVal):Option br:=match n,c with
 |some (.int .i64 (.ofNat n)),Eb (.int .i64 (.ofNat c))=>
  bif E4 n c&&G4 n 1073741824&&G4 bytes 4096&&E4 zero.length sz&&Nat.blt 0 sz&&zero.all qm then
   (match aK h0 h r (.cells (cellsOf (List.replicate n zero).flatten))with
    |some h'=>val h' (.ms (h0+r) 0 n)
    |none=>Eg)else Eg
 |_,_=>Eg
theorem zb3 {r sz b:Nat}{z:List AVal}{n c:jq}:qg p xc h0 al e h (.b8 (Eb r) sz b z n c)=vd h0 r sz b z h (qj e n) (qj e c):=by
 simp only[qg,qq,vd];rfl
def BJ (h0 r sz bytes:Nat)(h:qi)(own:Option Nat)(x y:Option AVal):Option br:=match x,y with
 |some (.list Eh de []),Eb vy=>
  bif own.isSome&&E4 sz de then
   (match yb sz vy with
    |some ys=>
     bif G4 ys.length 1073741824&&G4 bytes 4096&&Nat.blt 0 sz then
      (match aK h0 h r (.cells (cellsOf (ys.flatMap AVal.flat)))with
       |some h'=>Eb ⟨.ms (h0+r) 0 ys.length,Eh,own,h'⟩
       |none=>Eg)
     else Eg
    |none=>Eg)
  else Eg
 |_,_=>Eg
theorem j19 {r sz b:Nat}{x y:jq}:qg p xc h0 al e h (.append (Eb r) sz b x y)=BJ h0 r sz b h (zw e x) (qj e x) (qj e y):=by
 simp only[qg,qq,BJ];rfl
def juz (own:Option Nat)(v:AVal)(r:Option qi):Option br:=match r with
 |some h'=>Eb ⟨v,Eh,own,h'⟩|none=>Eg
theorem jwf {own:Option Nat}{v:AVal}:juz own v (Eb h)=Eb ⟨v,Eh,own,h⟩:=rfl
def Nx (c:Option (List (AVal×Bool)))(off len:Nat):Option AVal:=match c with
 |some cs=>bif EC off len cs then Eb (.list Eh (cs.length / len) (nc (cs.length / len) len (cs.map (·.1))))else(match zm cs off len with
  |some vs=>Eb (.list Eh 1 vs)
  |none=>Eg)
 |none=>Eg
theorem FJ {b o n:Nat}:aV h (.ms b o n)=Nx (qy h b) o n:=by
 simp only[aV,kr,Nx];rfl
theorem j0p {z:Nat}{f:α->AVal}{o:Option (List α)}:IK 0 Eh h (Eb (sl z f o))=Eb ⟨.bool o.isNone,Eh,Eg,h⟩:=by cases o<;>rfl
theorem sK {z b:Nat}{f:α->AVal}{x:α}{y:AVal}{o v:Option (List α)}(hz:0<z)(hy:yb z y=Eb [f x])(hn:o.isNone=Ep)(hv:bB o [x]=Eb v):bR z b h Eg (Eb (sl z f o)) (Eb y)=cm (decide (b<=4096)) (Eb ⟨sl z f v,Ep,Eg,h⟩):=by
 cases o with
 |some l=>cases hn
 |none=>
  by_cases hb:b<=4096
  .rw[US hz hb hy hv (.inl rfl)];simp[cm,hb]
  .have fq:decide (b<=4096)=Eh:=by simp[hb]
   rw[fq];simp[sl,bR,bR.iz,cm,hb,hy,np]
theorem qxq {b:Nat}{bb:Bool}{x:Int}{o v:ak Int}(hv:bB o [x]=Eb v)(hn:o.isNone=Ep):bR 1 b h Eg (Eb (sl 1 zg o)) (Eb (.list bb 1 [.int .i64 x]))=cm (decide (b<=4096)) (Eb ⟨sl 1 zg v,Ep,Eg,h⟩):=sK (by omega) rfl hn hv
attribute [go_sem] zb0 j12 jza jxk zb3 j19 jwf FJ j0p
attribute [go_sem] Nat.le_refl
end
@[go_sem] theorem zc6 {h:qi}{a b c d:Int}:M8 [.int,.int] Ep h (Eb (.agg [.int .i64 a,.int .i64 b])) (Eb (.agg [.int .i64 c,.int .i64 d]))=Eb ⟨.bool (!(decide (a=c)&&decide (b=d))),Eh,Eg,h⟩:=by
 show(match yi [.int,.int] [.int .i64 a,.int .i64 b] [.int .i64 c,.int .i64 d]with|some t=>val h (.bool (bif Ep then !t else t))|none=>Eg)=_
 have:yi [.int,.int] [.int .i64 a,.int .i64 b] [.int .i64 c,.int .i64 d]=Eb (decide (a=c)&&decide (b=d)):=by
  have e:∀x y:Int,(x == y)=decide (x=y):=fun x y=>by by_cases h:x=y<;>simp[h]
  simp only[yi,lT,e,decide_true,cond_true];by_cases Y:a=c<;>by_cases I:b=d<;>simp[Y,I]
 rw[this];rfl
theorem zc {i:Nat}(h:i<9223372036854775807):qf .i64 ((i:Int)+1)=((i+1:Nat):Int):=by
 rw[MO (by omega) (by omega)];rfl
variable {h:qi}
theorem qzw {b:Nat}{bb:Bool}{x:aj}{o v:ak aj}(hv:bB o [x]=Eb v)(hn:o.isNone=Ep):bR 1 b h Eg (Eb (sl 1 jf o)) (Eb (.list bb 1 [.str x]))=cm (decide (b<=4096)) (Eb ⟨sl 1 jf v,Ep,Eg,h⟩):=sK (by omega) rfl hn hv
theorem ju3 {b pos:Nat}{s:aj}(hp:decide (pos<s.length)=Ep):uv h b (Eb (.iter s pos))=iy (jx h b (.iter s (pos+(ql s pos).2))) (.bq [.bool Ep,.int .i64 pos,.int .i32 (ql s pos).1]):=ji3 (of_decide_eq_true hp)
theorem jus {b pos:Nat}{s:aj}(hp:decide (pos<s.length)=Eh):uv h b (Eb (.iter s pos))=Eb ⟨.bq [.bool Eh],Eh,Eg,h⟩:=jew (of_decide_eq_false hp)
end Go.Z
end
