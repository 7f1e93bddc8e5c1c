/- What the line's functions compute, and the small functions of the checks. -/
import Derived.Test.YtimdocpnkimlfaaGreatDoorZC
import Derived.Test.YtimdocpnkimlfaaGreatDoorAbsL
set_option linter.unusedVariables false
set_option linter.unusedSimpArgs false
set_option maxRecDepth 100000
open Option renaming some→I,none→Es,isSome_iff_exists→Ge,getD_none→Gt,getD_some→Gu,map_some→Gv
open Bool renaming false→E9,true→Ga,or_true→Gl,true_or→Gp,and_true→Gx,and_self→Gy
open List renaming getElem?_eq_some_iff→Gd,length_nil→Gf,getElem?_eq_getElem→Gj,length_map→Gm,isEmpty_nil→Gs
open Nat renaming beq→Gi,ble→Gn
namespace Go.Z
open Go Go.Abs
theorem rJ {α:Type}{l:List α}{i:Nat}{x:α}(hx:l[i]?=I x):l.drop i=x::l.drop (i+1):=by
 obtain⟨h1,h2⟩:=Gd.1 hx
 rw[List.drop_eq_getElem_cons h1,h2]
theorem jd9 {i:Nat}{n:Nat}(h:i<n)(hn:n≤9223372036854775807):qe .i64 ((i:Int)+1)=((i+1:Nat):Int):=by
 rw[qzi (by omega) (by omega)];rfl
structure IC where
 li:List UInt8
 values:Option (List Int)
def IE (u:IC):AVal:=.agg [.str u.li,sl 1 zy u.values]
@[go_sem] theorem jz6 {u:IC}:(IE u).flat=[.str u.li,sl 1 zy u.values]:=rfl
theorem q6q {n:Nat}(u:IC):below n (IE u)=Ga:=by simp only[IE,go_sem]
attribute [go_sem] q6q
def acc {α:Type}(z:Nat)(f:α→AVal)(l:List α):AVal:=match l with
 | []=>.list Ga 0 []
 |a::l=>.list E9 z ((a::l).map f)
def gw {α:Type}(l:List α):Bool:=!l.isEmpty
def jx {α:Type}(l:List α):Option (List α):=match l with
 | []=>Es
 |a::l=>I (a::l)
@[go_sem] theorem zjr {α:Type}{z:Nat}{f:α→AVal}:acc z f []=.list Ga 0 []:=rfl
@[go_sem] theorem ziw {α:Type}:gw (α:=α) []=E9:=rfl
theorem Bd {α:Type}(l:List α)(x:α):gw (l++[x])=Ga:=by cases l<;>rfl
@[go_sem] theorem jqm {n:Nat}:mS n []=Ga:=rfl
@[go_sem] theorem jpy {n t:Nat}{v:AVal}{o:Bool}{e:Env}:mS n ((t,v,o)::e)=(below n v&&mS n e):=rfl
@[go_sem] theorem jyj {h0:Nat}{al:Option (List Nat)}{h:qh}{u:IC}:y5 h0 al Ga 2 h (I (.ai (IE u)))=I ⟨.agg [.str u.li,sl 1 zy u.values],E9,Es,h⟩:=rfl
def oV (i:Nat)(x:Int):Bool:=decide (65≤x∧x≤90)||decide (97≤x∧x≤122)||(decide (i≠0)&&(decide (48≤x∧x≤57)||decide (x=95)))
theorem kinds (x:Int):x≤47∨(48≤x∧x≤57)∨(58≤x∧x≤64)∨(65≤x∧x≤90)∨(91≤x∧x≤94)∨x=95∨x=96∨(97≤x∧x≤122)∨123≤x:=by omega
def vA (i:Nat):List UInt8→Bool
 | []=>Ga
 |c::s=>oV i c.toNat&&vA (i+1) s
def dm (s:List UInt8):Bool:=decide (s≠[])&&decide (s.length≤24)&&vA 0 s
@[go_sem] theorem jmh {v:AVal}:jp 0 v []=[]:=rfl
@[go_sem] theorem jgf {h:qh}{u:IC}:DT E9 0 1 h (I (.ai (IE u)))=I ⟨.ai (.str u.li),E9,Es,h⟩:=rfl
@[go_sem] theorem zks {n:Nat}{v:AVal}{h:qh}:jp n v h=bif Gn h.length n then h else bif below n v&&zk n (h.take n)then h.take n else h:=rfl
@[go_sem] theorem jpz {n:Nat}:zk n []=Ga:=rfl
@[go_sem] theorem jo9 {n:Nat}{b:bg}{h:qh}:zk n (b::h)=(po n b&&zk n h):=rfl
@[go_sem] theorem jpg {n:Nat}{cs:List (AVal×Bool)}:po n (.cells cs)=pn n cs:=rfl
@[go_sem] theorem jn3 {n:Nat}:pn n []=Ga:=rfl
@[go_sem] theorem jma {n:Nat}{v:AVal}{o:Bool}{cs:List (AVal×Bool)}:pn n ((v,o)::cs)=(below n v&&pn n cs):=rfl
def wO (h0:Nat)(al:Option (List Nat))(sz:Nat)(h:qh)(x y:Option AVal):Option bm:=match x,y with
  |some (.ms b o len),I vy=>bif j9 h0 al b then(match jt h b with
   |some cs=>(match zZ sz len vy with
    |some (n,vs)=>(match jo cs o vs with
     |some eE=>bif Gi vs.length (n*sz)then(match jr h b (.cells eE)with
      |some h'=>val h' (.int .i64 n)
      |none=>Es)else Es
     |none=>Es)
    |none=>Es)
   |none=>Es)else Es
  |_,_=>Es
@[go_sem] theorem zk1 {p:jz}{xc:XC}{h0:Nat}{al:Option (List Nat)}{e:Env}{h:qh}{sz:Nat}{x y:js}:qf p xc h0 al e h (.copy sz x y)=wO h0 al sz h (qi e x) (qi e y):=rfl
@[go_sem] theorem zlo {k:IntKind}{x:Int}:xF .neg (.int k x)=I (.int k (qe k (0-x))):=rfl
def G8 (ks:List Kd)(neq:Bool)(h:qh)(x y:Option AVal):Option bm:=match x,y with
  |some (.agg a),I (.agg b)=>bif Gi a.length ks.length&&Gi b.length ks.length then(match z7 ks a b with
   |some t=>val h (.bool (bif neq then !t else t))
   |none=>Es)else Es
  |_,_=>Es
@[go_sem] theorem zlj {p:jz}{xc:XC}{h0:Nat}{al:Option (List Nat)}{e:Env}{h:qh}{ks:List Kd}{neq:Bool}{x y:js}:qf p xc h0 al e h (.eqs ks neq x y)=G8 ks neq h (qi e x) (qi e y):=rfl
def conv (f g:Nat→Nat):Nat→Nat
 |0=>f 0*g 0
 |s+1=>f 0*g (s+1)+conv (fun k=>f (k+1)) g s
def j3f (b:Bool):AVal:=.bool b
@[go_sem] theorem jyn {h0:Nat}{al:Option (List Nat)}{h:qh}{b:Bool}:y5 h0 al E9 1 h (I (.ai (j3f b)))=I ⟨.bool b,E9,Es,h⟩:=rfl
def qa {α β:Type}(x:Option α)(f:α→Option β):Option β:=match x with
 |some a=>f a
 |none=>Es
@[simp] theorem TS {α β:Type}{a:α}{f:α→Option β}:qa (I a) f=f a:=rfl
@[simp] theorem zb7 {α β:Type}{f:α→Option β}:qa Es f=Es:=rfl
theorem qb {α β:Type}{x:Option α}{f:α→Option β}{r:β}(h:qa x f=I r):∃a,x=I a∧f a=I r:=by
 cases x with
 |none=>cases h
 |some a=>exact⟨a,rfl,h⟩
theorem qd {α:Type}{c:Bool}{a b r:α}(h:cond c a b=r):(c=Ga∧a=r)∨(c=E9∧b=r):=by
 cases c
 ·exact .inr ⟨rfl,h⟩
 ·exact .inl ⟨rfl,h⟩
def oD {σ δ:Type}(f:σ→Option (σ⊕δ)):Nat→σ→Option δ
 |0,_=>Es
 |n+1,s=>match f s with
  |none=>Es
  |some (.inl s')=>oD f n s'
  |some (.inr d)=>I d
theorem q2i {σ δ:Type}{f:σ→Option (σ⊕δ)}{d:δ}:∀ {n:Nat} {s:σ},oD f n s=I d→oD f (n+1) s=I d
 |0,_,h=>by cases h
 |n+1,s,h=>by
  rw[oD]at h ⊢
  cases hf:f s with
  |none=>rw[hf]at h;cases h
  |some x=>
   rw[hf]at h
   cases x with
   |inl s'=>exact q2i h
   |inr d'=>exact h
theorem jdi {σ δ:Type}{f:σ→Option (σ⊕δ)}{d:δ}{n m:Nat}{s:σ}(hm:n≤m)(h:oD f n s=I d):oD f m s=I d:=by
 induction hm with
 |refl=>exact h
 |step _ ih=>exact q2i ih
open Classical in
noncomputable def bB {σ δ:Type}(f:σ→Option (σ⊕δ))(s:σ):Option δ:=
 if h:∃d n,oD f n s=I d then I (Classical.choose h)else Es
theorem Mf {σ δ:Type}{f:σ→Option (σ⊕δ)}{s:σ}{d:δ}:bB f s=I d↔∃n,oD f n s=I d:=by
 unfold bB
 constructor
 ·intro h
  split at h
  ·rename_i hh;cases h;exact Classical.choose_spec hh
  ·cases h
 ·rintro ⟨n,hn⟩
  have hh:∃d n,oD f n s=I d:=⟨d,n,hn⟩
  rw[dif_pos hh]
  obtain⟨m,hm⟩:=Classical.choose_spec hh
  have h1:=jdi (Nat.le_max_left n m) hn
  have h2:=jdi (Nat.le_max_right n m) hm
  rw[h1]at h2
  exact h2.symm
theorem oQ {σ δ:Type}{f:σ→Option (σ⊕δ)}{s s':σ}(h:f s=I (.inl s')):bB f s=bB f s':=by
 apply Option.ext
 intro d
 rw[Mf,Mf]
 constructor
 ·rintro ⟨n,hn⟩
  cases n with
  |zero=>cases hn
  |succ n=>rw[oD,h]at hn;exact⟨n,hn⟩
 ·rintro ⟨n,hn⟩
  exact⟨n+1,by rw[oD,h];exact hn⟩
theorem ku {σ δ:Type}{f:σ→Option (σ⊕δ)}{s:σ}{d:δ}(h:f s=I (.inr d)):bB f s=I d:=
 Mf.2 ⟨1,by rw[oD,h]⟩
theorem q7i {α γ σ δ ε:Type}(l:List α)(f:σ→Option (σ⊕δ))(mk:Nat→γ→σ)(g:Nat→γ→α→γ⊕ε)(En:γ→δ)(Ex:ε→δ)(Inv:Nat→γ→Prop)
  (cL:∀s,Inv l.length s→f (mk l.length s)=I (.inr (En s)))
  (cB:∀i s x,l[i]?=I x→i<l.length→Inv i s→match g i s x with
   | .inl s'=>Inv (i+1) s'∧f (mk i s)=I (.inl (mk (i+1) s'))
   | .inr d=>f (mk i s)=I (.inr (Ex d))):
  ∀(k i:Nat) (s:γ),i+k=l.length→Inv i s→bB f (mk i s)=I (match DU g i s (l.drop i)with
   | .inl s=>En s
   | .inr d=>Ex d)
 |0,i,s,hi,hv=>by
  have fY:i=l.length:=by omega
  subst fY
  rw[List.drop_eq_nil_of_le (Nat.le_refl _),ku (cL s hv)]
  rfl
 |k+1,i,s,hi,hv=>by
  obtain⟨x,hx⟩:∃x,l[i]?=I x:=⟨_,Gj (by omega)⟩
  have hs:=cB i s x hx (by omega) hv
  rw[rJ hx]
  simp only[DU]
  cases hg:g i s x with
  |inl s'=>
   rw[hg]at hs
   obtain⟨vb,h1⟩:=hs
   rw[oQ h1]
   exact q7i l f mk g En Ex Inv cL cB k (i+1) s' (by omega) vb
  |inr d=>
   rw[hg]at hs
   rw[ku hs]
theorem q4u {α γ σ δ ε:Type}(l:List α)(f:σ→Option (σ⊕δ))(mk:Nat→γ→σ)(g:Nat→γ→α→γ⊕ε)(En:γ→δ)(Ex:ε→δ)(Inv:Nat→γ→Prop)(s:γ)
  (cL:∀s,Inv l.length s→f (mk l.length s)=I (.inr (En s)))
  (cB:∀i s x,l[i]?=I x→i<l.length→Inv i s→match g i s x with
   | .inl s'=>Inv (i+1) s'∧f (mk i s)=I (.inl (mk (i+1) s'))
   | .inr d=>f (mk i s)=I (.inr (Ex d))) (hv:Inv 0 s):
  bB f (mk 0 s)=I (match DU g 0 s l with
   | .inl s=>En s
   | .inr d=>Ex d):=by
 have:=q7i l f mk g En Ex Inv cL cB l.length 0 s (by omega) hv
 rwa [List.drop_zero]at this
theorem Uc {α ε:Type}(l:List α)(f:Int→Option (Int⊕(ε⊕Int)))(P:Nat→α→Prop)
  (cL:f (l.length:Int)=I (.inr (.inr (l.length:Int))))
  (cB:∀(i:Nat) (x:α),l[i]?=I x→(f (i:Int)=I (.inl ((i+1:Nat):Int))∧P i x)∨∃e,f (i:Int)=I (.inr (.inl e))):
  (∃e,bB f 0=I (.inl e))∨(bB f 0=I (.inr (l.length:Int))∧∀(i:Nat) (x:α),l[i]?=I x→P i x):=by
 have key:∀(k i:Nat),i+k=l.length→(∀(j:Nat) (x:α),j<i→l[j]?=I x→P j x) →
   (∃e,bB f (i:Int)=I (.inl e))∨(bB f (i:Int)=I (.inr (l.length:Int))∧∀(i:Nat) (x:α),l[i]?=I x→P i x):=by
  intro k
  induction k with
  |zero=>
   intro i hi hp
   have:i=l.length:=by omega
   subst this
   exact .inr ⟨ku cL,fun j x hx=>hp j x (Gd.1 hx).1 hx⟩
  |succ k ih=>
   intro i hi hp
   obtain⟨x,hx⟩:∃x,l[i]?=I x:=⟨_,Gj (by omega)⟩
   rcases cB i x hx with⟨h1,h2⟩|⟨e,h1⟩
   ·rw[oQ h1]
    refine ih (i+1) (by omega) fun j y hj hy=>?_
    by_cases pA:j=i
    ·subst pA;rw[hx]at hy;cases hy;exact h2
    ·exact hp j y (by omega) hy
   ·exact .inl ⟨e,ku h1⟩
 exact key l.length 0 (by omega) fun j x hj=>absurd hj (by omega)
theorem jil {ε:Type}(n:Nat)(f:Int→Option (Int⊕(ε⊕Int)))(cL:f (n:Int)=I (.inr (.inr (n:Int))))(cB:∀i:Nat,i<n→f (i:Int)=I (.inl ((i+1:Nat):Int))):bB f 0=I (.inr (n:Int)):=by
 have hl:(List.range n).length=n:=List.length_range
 rcases Uc (List.range n) f (fun _ _=>True) (by rw[hl];exact cL) (fun i x hx=>.inl ⟨cB i (by have:=(Gd.1 hx).1;omega),trivial⟩)with⟨e,he⟩|⟨h,_⟩
 ·exfalso
  have key:∀(k i:Nat),i+k=n→bB f (i:Int)=I (.inr (n:Int)):=by
   intro k
   induction k with
   |zero=>
    intro i hi
    have:i=n:=by omega
    subst this
    exact ku cL
   |succ k ih=>intro i hi;rw[oQ (cB i (by omega))];exact ih (i+1) (by omega)
  have:=key n 0 (by omega)
  rw[Int.natCast_zero,he]at this
  cases this
 ·rw[h,hl]
def jw {σ δ:Type}(p:jz)(c:aw)(St:σ→bf)(Ex:δ→je×bf)(s:σ)(r:σ⊕δ):Prop:=match r with
 | .inl s'=>∃bZ,X p c (St s)=I (.normal,bZ)∧gc (St s).heap.length bZ=St s'
 | .inr d=>X p c (St s)=I (Ex d)
theorem wy {σ δ:Type}{p:jz}{c:aw}{St:σ→bf}{Ex:δ→je×bf}{s s':σ}{bZ:bf}(hx:X p c (St s)=I (.normal,bZ))(hc:gc (St s).heap.length bZ=St s'):jw p c St Ex s (.inl s'):=⟨bZ,hx,hc⟩
theorem qx {σ δ:Type}{p:jz}{c:aw}{St:σ→bf}{Ex:δ→je×bf}{s:σ}{d:δ}(hx:X p c (St s)=I (Ex d)):jw p c St Ex s (.inr d):=hx
theorem jl7 {σ δ:Type}{p:jz}{c:aw}{St:σ→bf}{Ex:δ→je×bf}{f:σ→Option (σ⊕δ)}(hb:∀s r,f s=I r→jw p c St Ex s r)(hX:∀d,(Ex d).1≠.normal){d:δ}:
  ∀ {n:Nat} {s:σ},oD f n s=I d→X p (.loop c) (St s)=I (Ex d)
 |0,_,h=>by cases h
 |n+1,s,h=>by
  rw[oD]at h
  rw[jo8]
  cases hf:f s with
  |none=>rw[hf]at h;cases h
  |some x=>
   rw[hf]at h
   have hs:=hb s x hf
   cases x with
   |inl s'=>
    obtain⟨bZ,h1,h2⟩:=hs
    rw[h1,q2f,h2]
    exact jl7 hb hX h
   |inr d'=>
    cases h
    rw[show X p c (St s)=I (Ex d)from hs,jdj (hX d)]
theorem jms {σ δ:Type}{p:jz}{c:aw}{St:σ→bf}{Ex:δ→je×bf}{f:σ→Option (σ⊕δ)}(hb:∀s r,f s=I r→jw p c St Ex s r)(hX:∀d,(Ex d).1≠.normal){s:σ}{d:δ}(h:bB f s=I d):X p (.loop c) (St s)=I (Ex d):=by
 obtain⟨n,hn⟩:=Mf.1 h
 exact jl7 hb hX hn
theorem ze {σ δ:Type}{p:jz}{c:aw}{St:σ→bf}{Ex:δ→je×bf}{f:σ→Option (σ⊕δ)}(hb:∀s r,f s=some r→jw p c St Ex s r){s:σ}{d:δ}(h:bB f s=some d)(hX:∀d,(Ex d).1≠.normal:=by first|exact fun d hh=>by cases hh|(intro d;rcases d with d|d|d<;>(intro hh;cases hh))|(intro d;rcases d with d|d<;>(intro hh;cases hh))):X p (.loop c) (St s)=some (Ex d):=jms hb hX h
section
variable {h0:Nat}{al:Option (List Nat)}{h:qh}{α:Type}
def qq (l:List α)(i:Int):Option α:=if 0≤i then l[i.toNat]? else Es
theorem jin {l:List α}{i:Nat}:qq l (i:Int)=l[i]?:=by simp[qq]
theorem zh {z:Nat}{f:α→AVal}{l:Option (List α)}{k:IntKind}{i:Int}{x:α}(hx:qq (l.getD []) i=I x):hH z h (I (sl z f l)) (I (.int k i))=I ⟨.ai (f x),E9,Es,h⟩:=by
 unfold qq at hx
 by_cases hi:0≤i
 ·rw[if_pos hi]at hx
  obtain⟨n,rfl⟩:∃n:Nat,i=(n:Int):=⟨i.toNat,by omega⟩
  exact jss (by simpa using hx)
 ·rw[if_neg hi]at hx;cases hx
theorem jhx {s:List UInt8}{k:IntKind}{i:Int}{c:UInt8}(hx:qq s i=I c):A5 h (I (.str s)) (I (.int k i))=I ⟨.int .u8 (c.toNat:Int),E9,Es,h⟩:=by
 unfold qq at hx
 by_cases hi:0≤i
 ·rw[if_pos hi]at hx
  obtain⟨n,rfl⟩:∃n:Nat,i=(n:Int):=⟨i.toNat,by omega⟩
  exact jej (by simpa using hx)
 ·rw[if_neg hi]at hx;cases hx
end
section
variable {h:qh}
end
section
variable {p:jz}{xc:XC}{h0:Nat}{al:Option (List Nat)}{e:Env}{h:qh}
def j2z (k:IntKind)(h:qh)(x:Option AVal):Option bm:=match x with
 |some (.int _ n)=>val h (.int k (qe k n))
 |_=>Es
@[go_sem] theorem j89 {k k':IntKind}{n:Int}:j2z k h (I (.int k' n))=I ⟨.int k (qe k n),E9,Es,h⟩:=rfl
def q3p (h:qh)(x:Option AVal):Option bm:=match x with
 |some (.str s)=>val h (.str s)
 |some (.int _ n)=>val h (.str (Utf8.encode n).data.toList)
 |_=>Es
@[go_sem] theorem jqn {k:IntKind}{n:Int}:q3p h (I (.int k n))=I ⟨.str (Utf8.encode n).data.toList,E9,Es,h⟩:=rfl
@[go_sem] theorem jw3 {s:List UInt8}:q3p h (I (.str s))=I ⟨.str s,E9,Es,h⟩:=rfl
def IF (h:qh)(x:Option AVal):Option bm:=match x with
 |some (.ptr b o)=>val h (.ptr b o)
 |some (.ai v)=>val h (.ai v)
 |some (.fn (.func f) a b)=>val h (.fn (.func f) a b)
 |_=>Es
@[go_sem] theorem jqv {b o:Nat}:IF h (I (.ptr b o))=I ⟨.ptr b o,E9,Es,h⟩:=rfl
@[go_sem] theorem jp6 {v:AVal}:IF h (I (.ai v))=I ⟨.ai v,E9,Es,h⟩:=rfl
@[go_sem] theorem jxr {f:Nat}{a b:List AVal}:IF h (I (.fn (.func f) a b))=I ⟨.fn (.func f) a b,E9,Es,h⟩:=rfl
@[go_sem] theorem j1m {x:js}:qf p xc h0 al e h (.nilCheck x)=IF h (qi e x):=by
 simp only[qf,qo,IF];rfl
def Ud (agg:Bool)(off n:Nat)(h:qh)(x:Option AVal):Option bm:=match x with
 |some (.agg cs)=>gB h (Go.Abs.part agg cs off n)
 |_=>Es
@[go_sem] theorem j1q {agg:Bool}{off n:Nat}{cs:List AVal}:Ud agg off n h (I (.agg cs))=gB h (Go.Abs.part agg cs off n):=rfl
@[go_sem] theorem zjt {agg:Bool}{off n:Nat}{x:js}:qf p xc h0 al e h (.field agg off n x)=Ud agg off n h (qi e x):=by
 simp only[qf,qo,Ud]
 cases qi e x with
 |none=>rfl
 |some v=>cases v<;>rfl
def zkr (agg:Bool)(len n:Nat)(h:qh)(x i:Option AVal):Option bm:=match x,i with
 |some (.agg cs),I j=>(match idx len j with
  |some j=>gB h (Go.Abs.part agg cs (j*n) n)
  |none=>Es)
 |_,_=>Es
end
section
variable {p:jz}{xc:XC}{h0:Nat}{al:Option (List Nat)}{e:Env}{h:qh}{α:Type}
def rR (n lK:Nat):Option Int→Option Nat
 |none=>I lK
 |some i=>if 0≤i∧i≤n then I i.toNat else Es
def Mc (s:List α)(lo hi:Option Int):Option (List α):=match rR s.length s.length hi with
 |some j=>(match rR j 0 lo with
  |some i=>I ((s.take j).drop i)
  |none=>Es)
 |none=>Es
def yH (o:Option (List α))(lo hi:Option Int):Option (Option (List α)):=match Mc (o.getD []) lo hi with
 |some l=>I (o.map fun _=>l)
 |none=>Es
def rT (lK n:Nat):Option (Option AVal)→Option Nat
 |none=>I lK
 |some (I v)=>zY n v
 |some Es=>Es
theorem j0a {lK n:Nat}{x:Option js}:fC e lK n x=rT lK n (x.map (qi e)):=by
 cases x with
 |none=>rfl
 |some x=>simp only[fC,Gv,rT];cases qi e x<;>rfl
theorem jnr {n d:Nat}{k:IntKind}{i:Int}:zY n (.int k i)=rR n d (I i):=by
 unfold zY rR
 cases i with
 |ofNat m=>
  simp only[]
  by_cases hm:m≤n
  ·rw[if_pos ⟨by simp,by simpa using hm⟩,Nat.ble_eq_true_of_le hm];rfl
  ·rw[if_neg (by simp;omega)]
   cases hb:Gn m n with
   |true=>exact absurd (Nat.le_of_ble_eq_true hb) hm
   |false=>rfl
 |negSucc m=>simp
def Ue (k:IntKind):Option Int→Option (Option AVal)
 |none=>Es
 |some i=>I (I (.int k i))
theorem jdr {d n:Nat}{k:IntKind}{x:Option Int}:rT d n (Ue k x)=rR n d x:=by
 cases x with
 |none=>rfl
 |some i=>exact jnr
def nz (sz:Nat)(h:qh)(x:Option AVal)(lo hi:Option (Option AVal)):Option bm:=match x with
 |some (.list n dj xs)=>bif Gi sz dj||xs.isEmpty then(match rT xs.length xs.length hi with
  |some j=>(match rT 0 j lo with
   |some i=>val h (.list n dj ((xs.take j).drop i))
   |none=>Es)
  |none=>Es)else Es
 |some (.ms b o len)=>(match rT len len hi with
  |some j=>(match rT 0 j lo with
   |some i=>bif Gi i 0||Nat.blt i j then val h (.ms b (o+i*sz) (j-i))else Es
   |none=>Es)
  |none=>Es)
 |some (.aj b bN len)=>(match rT len len hi with
  |some j=>(match rT 0 j lo with
   |some i=>bif Gi i 0 then val h (.aj b bN j)else Es
   |none=>Es)
  |none=>Es)
 |_=>Es
attribute [go_sem] Option.map_some Option.map_none
@[go_sem] theorem zkg {sz:Nat}{x:js}{lo hi:Option js}:qf p xc h0 al e h (.slice sz x lo hi)=nz sz h (qi e x) (lo.map (qi e)) (hi.map (qi e)):=by
 simp only[qf,qo,nz,j0a]
 cases qi e x with
 |none=>rfl
 |some v=>cases v<;>rfl
theorem j0w {z:Nat}{k k':IntKind}{f:α→AVal}{o v:Option (List α)}{lo hi:Option Int}(hv:yH o lo hi=I v):nz z h (I (sl z f o)) (Ue k lo) (Ue k' hi)=I ⟨sl z f v,E9,Es,h⟩:=by
 unfold yH Mc at hv
 cases o with
 |none=>
  simp only[sl,nz,Gs,Gl,cond_true,jdr]
  simp only[Gt]at hv
  cases h1:rR ([]:List α).length ([]:List α).length hi with
  |none=>rw[h1]at hv;cases hv
  |some j=>
   rw[h1]at hv
   simp only[]at hv
   cases h2:rR j 0 lo with
   |none=>rw[h2]at hv;cases hv
   |some i=>
    rw[h2]at hv
    cases hv
    simp only[Gf]at h1
    simp only[Gf,h1,h2,List.take_nil,List.drop_nil]
    rfl
 |some l=>
  simp only[sl,nz,Lm,decide_true,Gp,cond_true,jdr,Gm]
  simp only[Gu]at hv
  cases h1:rR l.length l.length hi with
  |none=>rw[h1]at hv;cases hv
  |some j=>
   rw[h1]at hv
   simp only[]at hv
   cases h2:rR j 0 lo with
   |none=>rw[h2]at hv;cases hv
   |some i=>
    rw[h2]at hv
    cases hv
    simp only[h2,val,Gv,List.map_drop,List.map_take]
theorem jpk {z:Nat}{k:IntKind}{f:α→AVal}{o v:Option (List α)}{hi:Int}(hv:yH o Es (I hi)=I v):nz z h (I (sl z f o)) Es (I (I (.int k hi)))=I ⟨sl z f v,E9,Es,h⟩:=j0w (k:=k) hv
end
section
variable {h:qh}{α:Type}
def D9 (o:Option (List α))(ys:List α):Option (List α):=match o,ys with
 |none,[]=>Es
 |o,ys=>I (o.getD []++ys)
def bq (o:Option (List α))(ys:List α):Option (Option (List α)):=if(o.getD []).length+ys.length≤1073741824 then I (D9 o ys)else Es
theorem Uf {z b:Nat}{own:Option Nat}{f:α→AVal}{o:Option (List α)}{ys:List α}{v:Option (List α)}{y:AVal}(hz:0<z)(hb:b≤4096)(hy:zq z y=I (ys.map f))(hv:bq o ys=I v)
  (ho:o=Es∨own.isSome=Ga):bS z b h own (I (sl z f o)) (I y)=I ⟨sl z f v,Ga,own,h⟩:=by
 unfold bq at hv
 by_cases hl:(o.getD []).length+ys.length≤1073741824
 ·rw[if_pos hl]at hv;cases hv
  cases o with
  |none=>
   simp only[sl,bS,bS.iA,hy,cq,Gp,Gs,Gx,Gl,Gf,Gm,ny,vj,hz,hb,decide_true]
   simp only[Gt,Gf]at hl
   simp only[hl,decide_true,Gy,Gl]
   cases ys with
   |nil=>rfl
   |cons y ys=>simp[qA,D9,sl]
  |some l=>
   have xW:own.isSome=Ga:=by rcases ho with h|h;cases h;exact h
   simp only[sl,bS,bS.iA,hy,cq,xW,Gl,Lm,ny,vj,hz,hb,decide_true,Gp,Gm]
   simp only[Gu]at hl
   simp only[hl,decide_true,Gy]
   simp[qA,D9,sl]
 ·rw[if_neg hl]at hv;cases hv
theorem jic {z b t:Nat}{f:α→AVal}{o o2 v:Option (List α)}(hv:bq o (o2.getD [])=I v):bS (z+1) b h (I t) (I (sl (z+1) f o)) (I (sl (z+1) f o2))=cq (decide (b≤4096)) (I ⟨sl (z+1) f v,Ga,I t,h⟩):=by
 by_cases hb:b≤4096
 ·rw[Uf (by omega) hb SL hv (.inr rfl)];simp[cq,hb]
 ·have fE:decide (b≤4096)=E9:=by simp[hb]
  rw[fE]
  cases o with
  |none=>simp[sl,bS,bS.iA,cq,hb,ny];split<;>rfl
  |some l=>simp[sl,bS,bS.iA,cq,hb,ny];split<;>rfl
theorem vo {z b t:Nat}{f:α→AVal}{x:α}{y:AVal}{o v:Option (List α)}(hz:0<z)(hy:zq z y=I [f x])(hv:bq o [x]=I v):bS z b h (I t) (I (sl z f o)) (I y)=cq (decide (b≤4096)) (I ⟨sl z f v,Ga,I t,h⟩):=by
 by_cases hb:b≤4096
 ·rw[Uf hz hb hy hv (.inr rfl)];simp[cq,hb]
 ·have fE:decide (b≤4096)=E9:=by simp[hb]
  rw[fE]
  cases o with
  |none=>simp[sl,bS,bS.iA,cq,hb,hy,ny]
  |some l=>simp[sl,bS,bS.iA,cq,hb,hy,ny]
theorem je2 {z b t:Nat}{f:α→AVal}{o2 v:Option (List α)}(hv:bq (I []) (o2.getD [])=I v):bS (z+1) b h (I t) (I (.list E9 (z+1) [])) (I (sl (z+1) f o2))=cq (decide (b≤4096)) (I ⟨sl (z+1) f v,Ga,I t,h⟩):=
 jic (o:=I []) hv
end
def yf (s:List UInt8):AVal:=.str s
@[go_sem] theorem j2e {h0:Nat}{al:Option (List Nat)}{h:qh}{b:List UInt8}:y5 h0 al E9 1 h (I (.ai (yf b)))=I ⟨.str b,E9,Es,h⟩:=rfl
@[go_sem] theorem j75 {n z:Nat}{l:Option (List (List UInt8))}:below n (sl z yf l)=Ga:=vi fun _=>rfl
theorem q96 {b t:Nat}{h:qh}{bb:Bool}{x:Int}{o v:Option (List Int)}(hv:bq o [x]=I v):bS 1 b h (I t) (I (sl 1 zy o)) (I (.list bb 1 [.int .i64 x]))=cq (decide (b≤4096)) (I ⟨sl 1 zy v,Ga,I t,h⟩):=vo (by omega) rfl hv
theorem q9e {b t:Nat}{h:qh}{bb:Bool}{x:List UInt8}{o v:Option (List (List UInt8))}(hv:bq o [x]=I v):bS 1 b h (I t) (I (sl 1 yf o)) (I (.list bb 1 [.str x]))=cq (decide (b≤4096)) (I ⟨sl 1 yf v,Ga,I t,h⟩):=vo (by omega) rfl hv
theorem qya {p:jz}{xc:XC}{k:Nat}{args:List AVal}{v v':AVal}{o:Bool}{h:qh}(hp:p.cO k=Es)(hc:qm p xc k args []=I (v,o,h))(hz:aJ h v=I v')(hv:below 0 v'=Ga)(hl:v.cS=Ga):qc p xc k args=I (v',o):=by
 rw[zx hp hc hz hv,hl,Gx]
section
variable {p:jz}{xc:XC}{h0:Nat}{al:Option (List Nat)}{e:Env}{h:qh}{α:Type}
def vE (h0 r sz bytes:Nat)(zero:List AVal)(h:qh)(n c:Option AVal):Option bm:=match n,c with
 |some (.int .i64 (.ofNat n)),I (.int .i64 (.ofNat c))=>
  bif Gi n c&&Gn n 1073741824&&Gn bytes 4096&&Gi zero.length sz&&Nat.blt 0 sz&&zero.all ql then
   (match aS h0 h r (.cells (cellsOf (List.replicate n zero).flatten))with
    |some h'=>val h' (.ms (h0+r) 0 n)
    |none=>Es)else Es
 |_,_=>Es
@[go_sem] theorem zjo {r sz b:Nat}{z:List AVal}{n c:js}:qf p xc h0 al e h (.cu (I r) sz b z n c)=vE h0 r sz b z h (qi e n) (qi e c):=by
 simp only[qf,qp,vE]
 rfl
def BM (h0 r sz bytes:Nat)(h:qh)(own:Option Nat)(x y:Option AVal):Option bm:=match x,y with
 |some (.list E9 dj []),I vy=>
  bif own.isSome&&Gi sz dj then
   (match zq sz vy with
    |some ys=>
     bif Gn ys.length 1073741824&&Gn bytes 4096&&Nat.blt 0 sz then
      (match aS h0 h r (.cells (cellsOf (ys.flatMap AVal.flat)))with
       |some h'=>I ⟨.ms (h0+r) 0 ys.length,E9,own,h'⟩
       |none=>Es)
     else Es
    |none=>Es)
  else Es
 |_,_=>Es
@[go_sem] theorem j8h {r sz b:Nat}{x y:js}:qf p xc h0 al e h (.append (I r) sz b x y)=BM h0 r sz b h (zj e x) (qi e x) (qi e y):=by
 simp only[qf,qp,BM]
 rfl
def ju6 (own:Option Nat)(v:AVal)(r:Option qh):Option bm:=match r with
 |some h'=>I ⟨v,E9,own,h'⟩
 |none=>Es
@[go_sem] theorem jyk {own:Option Nat}{v:AVal}:ju6 own v (I h)=I ⟨v,E9,own,h⟩:=rfl
def Mg (c:Option (List (AVal×Bool)))(off len:Nat):Option AVal:=match c with
 |some cs=>bif Dg off len cs then I (.list E9 (cs.length / len) (mG (cs.length / len) len (cs.map (·.1))))else(match zf cs off len with
  |some vs=>I (.list E9 1 vs)
  |none=>Es)
 |none=>Es
@[go_sem] theorem Eu {b o n:Nat}:aJ h (.ms b o n)=Mg (jt h b) o n:=by
 simp only[aJ,kq,Mg];rfl
@[go_sem] theorem j6r {z:Nat}{f:α→AVal}{o:Option (List α)}:SU 0 E9 h (I (sl z f o))=I ⟨.bool o.isNone,E9,Es,h⟩:=by cases o<;>rfl
theorem vp {z b:Nat}{f:α→AVal}{x:α}{y:AVal}{o v:Option (List α)}(hz:0<z)(hy:zq z y=I [f x])(hn:o.isNone=Ga)(hv:bq o [x]=I v):bS z b h Es (I (sl z f o)) (I y)=cq (decide (b≤4096)) (I ⟨sl z f v,Ga,Es,h⟩):=by
 cases o with
 |some l=>cases hn
 |none=>
  by_cases hb:b≤4096
  ·rw[Uf hz hb hy hv (.inl rfl)];simp[cq,hb]
  ·have fE:decide (b≤4096)=E9:=by simp[hb]
   rw[fE]
   simp[sl,bS,bS.iA,cq,hb,hy,ny]
theorem jbx {b:Nat}{bb:Bool}{x:Int}{o v:Option (List Int)}(hv:bq o [x]=I v)(hn:o.isNone=Ga):bS 1 b h Es (I (sl 1 zy o)) (I (.list bb 1 [.int .i64 x]))=cq (decide (b≤4096)) (I ⟨sl 1 zy v,Ga,Es,h⟩):=vp (by omega) rfl hn hv
attribute [go_sem] Nat.le_refl
end
@[go_sem] theorem zlm {h:qh}{a b c d:Int}:G8 [.int,.int] Ga h (I (.agg [.int .i64 a,.int .i64 b])) (I (.agg [.int .i64 c,.int .i64 d]))=I ⟨.bool (!(decide (a=c)&&decide (b=d))),E9,Es,h⟩:=by
 show(match z7 [.int,.int] [.int .i64 a,.int .i64 b] [.int .i64 c,.int .i64 d]with|some t=>val h (.bool (bif Ga then !t else t))|none=>Es)=_
 have:z7 [.int,.int] [.int .i64 a,.int .i64 b] [.int .i64 c,.int .i64 d]=I (decide (a=c)&&decide (b=d)):=by
  have e:∀x y:Int,(x == y)=decide (x=y):=fun x y=>by by_cases h:x=y<;>simp[h]
  simp only[z7,lH,e,decide_true,cond_true]
  by_cases h1:a=c<;>by_cases h2:b=d<;>simp[h1,h2]
 rw[this]
 rfl
section
variable {p:jz}{xc:XC}{h0:Nat}{al:Option (List Nat)}{e:Env}{h:qh}
end
noncomputable def mE (p:jz)(more:xE)(op:Nat→Bool):jz:={ bG:=p.bG,dL:=p.dL,maps:=p.maps,cO:=fun k=>bif op k then Es else match more k with
 |some f=>I f
 |none=>bif (p.bG k).isSome||(p.cO k).isSome||(p.dL k).isSome then I fun args=>qc p (X p) k args else Es }
theorem q0j {p:jz}{xc:XC}{k:Nat}{args:List AVal}{r:AVal×Bool}(h:qc p xc k args=I r):((p.bG k).isSome||(p.cO k).isSome||(p.dL k).isSome)=Ga:=by
 unfold qc at h
 split at h
 ·rename_i f hf;simp[hf]
 ·split at h
  ·rename_i hc
   unfold qm at hc
   split at hc
   ·rename_i f hf;simp[hf]
   ·split at hc
    ·rename_i f hf;simp[hf]
    ·cases hc
  ·cases h
theorem q79 {p:jz}{more:xE}{op:Nat→Bool}{k:Nat}(ho:op k=E9)(hm:more k=Es){xc:XC}{args:List AVal}{v:AVal}{o:Bool}(h:qc p (X p) k args=I (v,o))(hv:mF v=Ga):qc (mE p more op) xc k args=I (v,o):=by
 have hk:=q0j h
 unfold qc
 have:(mE p more op).cO k=I fun args=>qc p (X p) k args:=by simp only[mE,ho,cond_false,hm,hk,cond_true]
 rw[this]
 simp only[h,hv,cond_true]
theorem q9b {p:jz}{more:xE}{op:Nat→Bool}{k:Nat}{f:List AVal→Option (AVal×Bool)}(ho:op k=E9)(hm:more k=I f){xc:XC}{args:List AVal}{v:AVal}{o:Bool}(h:f args=I (v,o))(hv:mF v=Ga):qc (mE p more op) xc k args=I (v,o):=by
 unfold qc
 have:(mE p more op).cO k=I f:=by simp only[mE,ho,cond_false,hm]
 rw[this]
 simp only[h,hv,cond_true]
theorem jhf {P:Program}{p:jz}{more:xE}{op:Nat→Bool}(hp:b6 P p)(hm:∀k f,more k=I f→Enters P k∧∀args v o,f args=I (v,o)→mF v=Ga→qw 0 args=Ga→IsoCall P k args v o):b6 P (mE p more op) where
 fn:=hp.fn
 maps:=hp.maps
 iK:=by
  intro k f hf
  cases ho:op k with
  |true=>
   have:(mE p more op).cO k=Es:=by simp only[mE,ho,cond_true]
   rw[this]at hf;cases hf
  |false=>
  cases x9:more k with
  |some g=>
   have:(mE p more op).cO k=I g:=by simp only[mE,ho,cond_false,x9]
   rw[this]at hf
   cases hf
   exact hm k _ x9
  |none=>
   cases hk:((p.bG k).isSome||(p.cO k).isSome||(p.dL k).isSome)with
   |false=>
    have:(mE p more op).cO k=Es:=by simp only[mE,ho,x9,hk,cond_false]
    rw[this]at hf;cases hf
   |true=>
    have:(mE p more op).cO k=I fun args=>qc p (X p) k args:=by simp only[mE,ho,cond_false,x9,hk,cond_true]
    rw[this]at hf
    cases hf
    refine⟨?_,fun args v o h _ hb=>q4n hp h hb⟩
    simp only[Bool.or_eq_true]at hk
    rcases hk with(h|h)|h
    ·obtain⟨af,ha⟩:=Ge.1 h
     exact hp.enters ha
    ·obtain⟨g,hg⟩:=Ge.1 h
     exact(hp.iK k g hg).1
    ·obtain⟨g,hg⟩:=Ge.1 h
     exact(hp.fT k g hg).1
 mixed:=hp.mixed
 fT:=hp.fT
theorem yg {i:Nat}(h:i<9223372036854775807):qe .i64 ((i:Int)+1)=((i+1:Nat):Int):=by
 rw[qzi (by omega) (by omega)];rfl
variable {h:qh}
theorem jq8 {b pos:Nat}{s:List UInt8}(hp:decide (pos<s.length)=Ga):vm h b (I (.iter s pos))=iz (jr h b (.iter s (pos+(qn s pos).2))) (.aI [.bool Ga,.int .i64 pos,.int .i32 (qn s pos).1]):=jgt (of_decide_eq_true hp)
theorem jvs {b pos:Nat}{s:List UInt8}(hp:decide (pos<s.length)=E9):vm h b (I (.iter s pos))=I ⟨.aI [.bool E9],E9,Es,h⟩:=jcx (of_decide_eq_false hp)
end Go.Z
