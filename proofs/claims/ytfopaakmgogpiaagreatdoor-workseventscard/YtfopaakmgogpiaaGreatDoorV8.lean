/- Chapter 10. -/
import Derived.Test.YtfopaakmgogpiaaGreatDoorW10
import Derived.Test.YtfopaakmgogpiaaGreatDoorW15
import Derived.Test.YtfopaakmgogpiaaGreatDoorAbsL
import Derived.Test.YtfopaakmgogpiaaGreatDoorCA
set_option linter.unusedVariables false
set_option linter.unusedSimpArgs false
set_option maxRecDepth 100000
set_option maxHeartbeats 4000000
noncomputable section
open Bool renaming false→I,cond_eq_ite→En
open Nat renaming eq_of_beq_eq_true→Ef,beq→E1
open Option renaming some→E0,none→E3
namespace Go.Z
open Go Go.Abs Go.W
def f117 (a1:ql)(aO:Int)(aK:Option (List qk))(aI:Option (List qi))(az:Option (List qf)):Option (Int×(Option (List qf))):=
 jw (zo (a1.names.getD []) 0) fun v1=>
 jw (f93 (⟨aO,aK,aI,az⟩) v1) fun v3=>
 jw (zo (az.getD []) v3) fun v5=>
 jw (f75 (⟨aO,aK,aI,az⟩) v5) fun v7=>
 cond (decide (v7=0))
  (jw (Vn az v3) fun v10=>
  E0 (0,v10))
  (E0 (v7,az))
theorem zb6 {a1:ql}{aO:Int}{aK:Option (List qk)}{aI:Option (List qi)}{az:Option (List qf)}{x1:qn}{x2:qn}{x3:qn}{r}(h:f117 a1 aO aK aI az=E0 r):zf pr (X pr) 117 [.ptr 0 0,aE a1] [kR aO aK aI az,x1,x2,x3]=E0 (Iv r.1,I,[kR aO aK aI r.2,x1,x2,x3]):=by
 unfold f117 at h
 rw[zd (show pr.bj 117=E0 sj from rfl) (by simp)]
 repeat' first|(replace h:=jx h;obtain⟨d,g,h⟩:=h;with_reducible first|replace g:=yB g|replace g:=W75 g|replace g:=ji2 g|skip)|(replace h:=jz h;rcases h with⟨g,h⟩|⟨g,h⟩)|fail
 all_goals (cases h<;>(simp only[go_sem,seval,sj,zn, *]<;>rfl))
end Go.Z
namespace Go.Z
open Go Go.Abs Go.W
def AR (a0:qc)(a1:ql):Option (Option (Nat)⊕(Nat⊕Nat)):=
 cond (decide (0<(yu a1.kind).length))
  (cond (decide (((zg (yu a1.kind) 0).1:Int)=45))
   (E0 (.inl (E0 (0+(zg (yu a1.kind) 0).2))))
   (jw (zo (a1.names.getD []) (0:Int)) fun py=>
   jw (f202 a0 ((zg (yu a1.kind) 0).1:Int) py) fun yn=>
   cond yn
    (E0 (.inl (E0 (0+(zg (yu a1.kind) 0).2))))
    (E0 (.inr (.inl (0+(zg (yu a1.kind) 0).2))))))
  (E0 (.inr (.inr 0)))
def vO (a0:qc)(a1:ql)(s0:Nat):Option (Option (Nat)⊕(Nat⊕Nat)):=
 cond (decide (s0<(yu a1.kind).length))
  (cond (decide (((zg (yu a1.kind) s0).1:Int)=45))
   (E0 (.inl (E0 (s0+(zg (yu a1.kind) s0).2))))
   (jw (zo (a1.names.getD []) (s0:Int)) fun yA=>
   jw (f202 a0 ((zg (yu a1.kind) s0).1:Int) yA) fun si=>
   cond si
    (E0 (.inl (E0 (s0+(zg (yu a1.kind) s0).2))))
    (E0 (.inr (.inl (s0+(zg (yu a1.kind) s0).2))))))
  (E0 (.inr (.inr s0)))
def Ea (a0:qc)(a1:ql):Option (Nat)→Option (Option (Nat)⊕(Nat⊕Nat))
 |none=>AR a0 a1
 |some x=>vO a0 a1 x
def Ie (a0:qc)(a1:ql)(s0:Nat):qg:=⟨[(2,.ptr 0 0,I),(3,.ah (aE a1),I),(4,.ptr 1 0,I),(6,.ah (.agg [.str (yu a1.kind),Iv (mU a1.kind),lH a1.kind]),I),(24,.ptr 3 0,I),(41,.bool I,I)],[.cells [(Iv a0.day,I),(sl 5 z7 a0.au,I),(sl 4 zr a0.ae,I),(sl 8 bp a0.units,I)],kZ,.map z8,.iter (yu a1.kind) s0]⟩
def yC (a0:qc)(a1:ql):Option (Nat)→qg
 |none=>⟨[(2,.ptr 0 0,I),(3,.ah (aE a1),I),(4,.ptr 1 0,I),(6,.ah (.agg [.str (yu a1.kind),Iv (mU a1.kind),lH a1.kind]),I),(24,.ptr 3 0,I)],[.cells [(Iv a0.day,I),(sl 5 z7 a0.au,I),(sl 4 zr a0.ae,I),(sl 8 bp a0.units,I)],kZ,.map z8,.iter (yu a1.kind) 0]⟩
 |some x=>Ie a0 a1 x
def yD (a0:qc)(a1:ql):Nat⊕Nat→qo×qg
 | .inl d=>(.ret,⟨[(4,.ptr 1 0,I),(5,Iv 10,I)],[.cells [(Iv a0.day,I),(sl 5 z7 a0.au,I),(sl 4 zr a0.ae,I),(sl 8 bp a0.units,I)],kZ,.map z8,.iter (yu a1.kind) d]⟩)
 | .inr d=>(.exit 0,⟨[(2,.ptr 0 0,I),(3,.ah (aE a1),I),(4,.ptr 1 0,I),(6,.ah (.agg [.str (yu a1.kind),Iv (mU a1.kind),lH a1.kind]),I),(24,.ptr 3 0,I),(25,.aB [.bool I],I),(26,.bool I,I)],[.cells [(Iv a0.day,I),(sl 5 z7 a0.au,I),(sl 4 zr a0.ae,I),(sl 8 bp a0.units,I)],kZ,.map z8,.iter (yu a1.kind) d]⟩)
theorem jmv (a0:qc)(a1:ql)(r)(h:AR a0 a1=E0 r):yp pr sk (yC a0 a1) (yD a0 a1) E3 r:=by
 unfold AR at h
 repeat' first|(replace h:=jx h;obtain⟨d,g,h⟩:=h;with_reducible first|replace g:=jo4 g|skip)|(replace h:=jz h;rcases h with⟨g,h⟩|⟨g,h⟩)|fail
 all_goals (cases h<;>(first|(refine zw ?_;simp only[go_sem,seval,sk,yC,Ie,xr,zn,yD, *]<;>rfl)|(refine yj ?_;simp only[go_sem,seval,sk,yC,Ie,xr,zn,yD, *]<;>rfl)))
theorem jml (a0:qc)(a1:ql)(s0:Nat)(r)(h:vO a0 a1 s0=E0 r):yp pr sk (yC a0 a1) (yD a0 a1) (E0 s0) r:=by
 unfold vO at h
 repeat' first|(replace h:=jx h;obtain⟨d,g,h⟩:=h;with_reducible first|replace g:=jo4 g|skip)|(replace h:=jz h;rcases h with⟨g,h⟩|⟨g,h⟩)|fail
 all_goals (cases h<;>(first|(refine zw ?_;simp only[go_sem,seval,sk,yC,Ie,xr,zn,yD, *]<;>rfl)|(refine yj ?_;simp only[go_sem,seval,sk,yC,Ie,xr,zn,yD, *]<;>rfl)))
theorem jth (a0:qc)(a1:ql):∀(x:Option (Nat)) (r) (h:Ea a0 a1 x=E0 r),yp pr sk (yC a0 a1) (yD a0 a1) x r
 |none,r,h=>jmv a0 a1 r h
 |some x,r,h=>jml a0 a1 x r h
theorem ja2 (a0:qc)(a1:ql){s0:Option (Nat)}{d}(h:bf (Ea a0 a1) s0=E0 d):X pr (.loop sk) (yC a0 a1 s0)=E0 (yD a0 a1 d):=y7 (jth a0 a1) (fun d=>by rcases d with d|d<;>(intro hh;cases hh)) h
def eO (k:Nat)(a0:qc)(a1:ql):Option (Int×qc):=
 bif E1 k 105 then jw (f105 a1 a0.day a0.au a0.ae a0.units) fun v=>E0 (v.1,{ a0 with au:=v.2.1 })else
 bif E1 k 106 then jw (f106 a1 a0.day a0.au a0.ae a0.units) fun v=>E0 (v.1,{ a0 with ae:=v.2.1 })else
 bif E1 k 107 then jw (f107 a1 a0.day a0.au a0.ae a0.units) fun v=>E0 (v.1,{ a0 with ae:=v.2 })else
 bif E1 k 108 then jw (f108 a1 a0.day a0.au a0.ae a0.units) fun v=>E0 (v.1,{ a0 with ae:=v.2 })else
 bif E1 k 109 then jw (f109 a1 a0.day a0.au a0.ae a0.units) fun v=>E0 (v.1,{ a0 with ae:=v.2 })else
 bif E1 k 110 then jw (f110 a1 a0.day a0.au a0.ae a0.units) fun v=>E0 (v.1,{ a0 with units:=v.2.1 })else
 bif E1 k 112 then jw (f112 a1 a0.day a0.au a0.ae a0.units) fun v=>E0 (v.1,{ a0 with units:=v.2 })else
 bif E1 k 113 then jw (f113 a1 a0.day a0.au a0.ae a0.units) fun v=>E0 (v.1,{ a0 with units:=v.2 })else
 bif E1 k 114 then jw (f114 a1 a0.day a0.au a0.ae a0.units) fun v=>E0 (v.1,{ a0 with units:=v.2 })else
 bif E1 k 115 then jw (f115 a1 a0.day a0.au a0.ae a0.units) fun v=>E0 (v.1,{ a0 with au:=v.2 })else
 bif E1 k 116 then jw (f116 a1 a0.day a0.au a0.ae a0.units) fun v=>E0 (v.1,{ a0 with au:=v.2 })else
 bif E1 k 117 then jw (f117 a1 a0.day a0.au a0.ae a0.units) fun v=>E0 (v.1,{ a0 with units:=v.2 })else
 bif E1 k 118 then jw (f118 a1 a0.day a0.au a0.ae a0.units) fun v=>E0 (v.1,{ a0 with units:=v.2 })else
 bif E1 k 111 then jw (f111 a1 a0.day a0.au a0.ae a0.units) fun v=>E0 (v.1,{ a0 with au:=v.2.1,units:=v.2.2 })else E3
theorem jic {k:Nat}{a0:qc}{a1:ql}{x1 x2 x3:qn}{v}(h:eO k a0 a1=E0 v):
  (∃w1 w2 w3:Bool,zf pr (X pr) k [.ptr 0 0,aE a1] [.cells [(Iv a0.day,I),(sl 5 z7 a0.au,I),(sl 4 zr a0.ae,I),(sl 8 bp a0.units,I)],x1,x2,x3]=E0 (Iv v.1,I,[.cells [(Iv v.2.day,I),(sl 5 z7 v.2.au,w1),(sl 4 zr v.2.ae,w2),(sl 8 bp v.2.units,w3)],x1,x2,x3])∧v.2.day=a0.day) ∨
  (v.1=0∧v.2.day=a0.day∧∃(n:Nat) (b:qn) (cs:List (qa×Bool)),zf pr (X pr) k [.ptr 0 0,aE a1] [.cells [(Iv a0.day,I),(sl 5 z7 a0.au,I),(sl 4 zr a0.ae,I),(sl 8 bp a0.units,I)],x1,x2,x3]=E0 (Iv 0,I,[.cells [(Iv v.2.day,I),(sl 5 z7 v.2.au,I),(sl 4 zr v.2.ae,I),(.ms 5 0 n,I)],x1,x2,x3,b,.cells cs])∧cs.map (·.1)=yw bp (v.2.units.getD [])∧n=(v.2.units.getD []).length∧0<n∧v.2.units.isSome=true):=by
 unfold eO at h
 rw[En]at h
 split at h
 ·rename_i hk
  rw[Ef hk]
  obtain⟨y,hy,h⟩:=jx h
  cases h
  exact .inl ⟨y.2.2,I,I,zgb hy,rfl⟩
 rw[En]at h
 split at h
 ·rename_i hk
  rw[Ef hk]
  obtain⟨y,hy,h⟩:=jx h
  cases h
  exact .inl ⟨I,y.2.2,I,zgd hy,rfl⟩
 rw[En]at h
 split at h
 ·rename_i hk
  rw[Ef hk]
  obtain⟨y,hy,h⟩:=jx h
  cases h
  exact .inl ⟨I,I,I,j9o hy,rfl⟩
 rw[En]at h
 split at h
 ·rename_i hk
  rw[Ef hk]
  obtain⟨y,hy,h⟩:=jx h
  cases h
  exact .inl ⟨I,I,I,zg3 hy,rfl⟩
 rw[En]at h
 split at h
 ·rename_i hk
  rw[Ef hk]
  obtain⟨y,hy,h⟩:=jx h
  cases h
  exact .inl ⟨I,I,I,zc4 hy,rfl⟩
 rw[En]at h
 split at h
 ·rename_i hk
  rw[Ef hk]
  obtain⟨y,hy,h⟩:=jx h
  cases h
  exact .inl ⟨I,I,y.2.2,zhi hy,rfl⟩
 rw[En]at h
 split at h
 ·rename_i hk
  rw[Ef hk]
  obtain⟨y,hy,h⟩:=jx h
  cases h
  exact .inl ⟨I,I,I,za5 hy,rfl⟩
 rw[En]at h
 split at h
 ·rename_i hk
  rw[Ef hk]
  obtain⟨y,hy,h⟩:=jx h
  cases h
  exact .inl ⟨I,I,I,zbv hy,rfl⟩
 rw[En]at h
 split at h
 ·rename_i hk
  rw[Ef hk]
  obtain⟨y,hy,h⟩:=jx h
  cases h
  exact .inl ⟨I,I,I,zdm hy,rfl⟩
 rw[En]at h
 split at h
 ·rename_i hk
  rw[Ef hk]
  obtain⟨y,hy,h⟩:=jx h
  cases h
  exact .inl ⟨I,I,I,zcl hy,rfl⟩
 rw[En]at h
 split at h
 ·rename_i hk
  rw[Ef hk]
  obtain⟨y,hy,h⟩:=jx h
  cases h
  exact .inl ⟨I,I,I,zd6 hy,rfl⟩
 rw[En]at h
 split at h
 ·rename_i hk
  rw[Ef hk]
  obtain⟨y,hy,h⟩:=jx h
  cases h
  exact .inl ⟨I,I,I,zb6 hy,rfl⟩
 rw[En]at h
 split at h
 ·rename_i hk
  rw[Ef hk]
  obtain⟨y,hy,h⟩:=jx h
  cases h
  exact .inl ⟨I,I,I,zad hy,rfl⟩
 rw[En]at h
 split at h
 ·rename_i hk
  rw[Ef hk]
  obtain⟨y,hy,h⟩:=jx h
  cases h
  rcases zdn (x1:=x1) (x2:=x2) (x3:=x3) hy with⟨h1,h2,h3⟩|⟨h1,n,b,cs,h2,h3,h4,h5⟩
  ·refine .inl ⟨I,I,I,?_,rfl⟩
   rcases y with⟨y1,y2⟩
   cases h2
   exact h3
  ·refine .inr ⟨h1,rfl,n,b,cs,h2,h3,h4,h5,?_⟩
   show y.2.2.isSome=true
   cases hu:y.2.2 with
   |some _=>rfl
   |none=>rw[hu]at h4;simp at h4;omega
 ·cases h
def Hj (x:List UInt8):Nat:=match ov x with
 |some f=>f.2.2.2
 |none=>0
theorem ji1 (x:List UInt8):lH x=fnv (Hj x):=by
 unfold lH Hj
 cases ov x<;>rfl
theorem jee {k:Nat}{a0:qc}{a1:ql}{v}(h:eO k a0 a1=E0 v):fnv k=.fn (.func k) [] []:=by
 cases hk:E1 k 0 with
 |false=>simp only[fnv,hk,cond_false]
 |true=>rw[Ef hk]at h;cases h
def f121 (a0:qc)(a1:ql):Option (qc×Int):=
 jw (zo (a1.values.getD []) 0) fun v1=>
 cond (decide (v1<a0.day))
  (E0 (⟨0,E3,E3,E3⟩,20))
  (jw (bf (Ea a0 a1) E3) fun d48=>match d48 with
   | .inl d50=>
    E0 (⟨0,E3,E3,E3⟩,10)
   | .inr d51=>
    jw (eO (Hj a1.kind) a0 a1) fun v=>
    cond (decide (v.1=0))
     (E0 ({ v.2 with day:=v1 },0))
     (E0 (⟨0,E3,E3,E3⟩,v.1)))
theorem Ek {a0:qc}{a1:ql}{r}(h:f121 a0 a1=E0 r):jy pr (X pr) 121 [aR a0,aE a1]=E0 (.aB [aR r.1,Iv r.2],I):=by
 unfold f121 at h
 obtain⟨v1,h2,h⟩:=jx h
 rcases jz h with⟨h3,h⟩|⟨h3,h⟩
 ·have hr:(⟨0,E3,E3,E3⟩,20)=r:=E0.inj h
  subst hr
  have this:∃hh,zf pr (X pr) 121 [aR a0,aE a1] []=E0 (.aB [aZ,Iv 20],I,hh):=by
   rw[zd (show pr.bj 121=E0 gq from rfl) (by simp)]
   simp only[go_sem,seval,gq,kc h2,h3]
   exact⟨_,rfl⟩
  obtain⟨hh,this⟩:=this
  exact ko rfl this (by first|rfl|simp only[go_sem,seval]) (by first|rfl|simp only[go_sem,seval])
 ·obtain⟨d48,NS,h⟩:=jx h
  rcases d48 with d50|d51
  ·have oK:X pr (.loop sk) ⟨[(2,.ptr 0 0,I),(3,.ah (aE a1),I),(4,.ptr 1 0,I),(6,.ah (.agg [.str (yu a1.kind),Iv (mU a1.kind),lH a1.kind]),I),(24,.ptr 3 0,I)],[kR a0.day a0.au a0.ae a0.units,kZ,.map z8,.iter (yu a1.kind) 0]⟩=E0 (.ret,⟨[(4,.ptr 1 0,I),(5,Iv 10,I)],[kR a0.day a0.au a0.ae a0.units,kZ,.map z8,.iter (yu a1.kind) d50]⟩):=ja2 a0 a1 NS
   have hr:(⟨0,E3,E3,E3⟩,10)=r:=E0.inj h
   subst hr
   have this:∃hh,zf pr (X pr) 121 [aR a0,aE a1] []=E0 (.aB [aZ,Iv 10],I,hh):=by
    rw[zd (show pr.bj 121=E0 gq from rfl) (by simp)]
    simp only[go_sem,seval,gq,kc h2,h3,Nj,oK]
    exact⟨_,rfl⟩
   obtain⟨hh,this⟩:=this
   exact ko rfl this (by first|rfl|simp only[go_sem,seval]) (by first|rfl|simp only[go_sem,seval])
  ·have oK:X pr (.loop sk) ⟨[(2,.ptr 0 0,I),(3,.ah (aE a1),I),(4,.ptr 1 0,I),(6,.ah (.agg [.str (yu a1.kind),Iv (mU a1.kind),lH a1.kind]),I),(24,.ptr 3 0,I)],[kR a0.day a0.au a0.ae a0.units,kZ,.map z8,.iter (yu a1.kind) 0]⟩=E0 (.exit 0,⟨[(2,.ptr 0 0,I),(3,.ah (aE a1),I),(4,.ptr 1 0,I),(6,.ah (.agg [.str (yu a1.kind),Iv (mU a1.kind),lH a1.kind]),I),(24,.ptr 3 0,I),(25,.aB [.bool I],I),(26,.bool I,I)],[kR a0.day a0.au a0.ae a0.units,kZ,.map z8,.iter (yu a1.kind) d51]⟩):=ja2 a0 a1 NS
   obtain⟨v,hv,h⟩:=jx h
   have hfn:lH a1.kind=.fn (.func (Hj a1.kind)) [] []:=by rw[ji1];exact jee hv
   simp only[hfn]at oK
   have af:∀(n:Int) (b:qn),yi 4 (Iv n) [b,kZ,.map z8,.iter (yu a1.kind) d51]=[b,kZ,.map z8,.iter (yu a1.kind) d51]:=fun _ _=>kW rfl
   rcases jic (x1:=kZ) (x2:=.map z8) (x3:=.iter (yu a1.kind) d51) hv with⟨w1,w2,w3,g,hd⟩|⟨h0,hd,n,b,cs,g,g2,hn,gO,hs⟩
   ·rcases jz h with⟨h5,h⟩|⟨h5,h⟩
    ·cases h
     have this:∃hh,zf pr (X pr) 121 [aR a0,aE a1] []=E0 (.aB [aG v1 v.2.au v.2.ae v.2.units,Iv 0],I,hh):=by
      rw[zd (show pr.bj 121=E0 gq from rfl) (by simp)]
      simp only[go_sem,seval,gq,kc h2,h3,Nj,oK,hfn,g,af,h5]
      exact⟨_,rfl⟩
     obtain⟨hh,this⟩:=this
     exact ko rfl this (by first|rfl|simp only[go_sem,seval]) (by first|rfl|simp only[go_sem,seval])
    ·cases h
     have this:∃hh,zf pr (X pr) 121 [aR a0,aE a1] []=E0 (.aB [aZ,Iv v.1],I,hh):=by
      rw[zd (show pr.bj 121=E0 gq from rfl) (by simp)]
      simp only[go_sem,seval,gq,kc h2,h3,Nj,oK,hfn,g,af,h5]
      exact⟨_,rfl⟩
     obtain⟨hh,this⟩:=this
     exact ko rfl this (by first|rfl|simp only[go_sem,seval]) (by first|rfl|simp only[go_sem,seval])
   ·have h5:decide (v.1=0)=true:=dT h0
    rw[h5]at h
    cases h
    have ab:∀(n:Int) (c:qn),yi 4 (Iv n) [c,kZ,.map z8,.iter (yu a1.kind) d51,b,.cells cs]=(bif oS 4 c&&kh 4 [kZ,.map z8,.iter (yu a1.kind) d51]then [c,kZ,.map z8,.iter (yu a1.kind) d51]else [c,kZ,.map z8,.iter (yu a1.kind) d51,b,.cells cs]):=fun _ _=>rfl
    have this:zf pr (X pr) 121 [aR a0,aE a1] []=E0 (.aB [.agg [Iv v1,sl 5 z7 v.2.au,sl 4 zr v.2.ae,.ms 5 0 n],Iv 0],I,[.cells [(Iv v1,I),(sl 5 z7 v.2.au,I),(sl 4 zr v.2.ae,I),(.ms 5 0 n,I)],.cells [(Iv v1,I),(sl 5 z7 v.2.au,I),(sl 4 zr v.2.ae,I),(.ms 5 0 n,I)],.map z8,.iter (yu a1.kind) d51,b,.cells cs]):=by
     rw[zd (show pr.bj 121=E0 gq from rfl) (by simp)]
     simp only[go_sem,seval,gq,kc h2,h3,Nj,oK,hfn,g,(show ∀n,below 4 (.ms 5 0 n)=I from fun _=>rfl),Bool.false_and,Bool.and_false,cond_false]<;>rfl
    have fz:iB [.cells [(Iv v1,I),(sl 5 z7 v.2.au,I),(sl 4 zr v.2.ae,I),(.ms 5 0 n,I)],.cells [(Iv v1,I),(sl 5 z7 v.2.au,I),(sl 4 zr v.2.ae,I),(.ms 5 0 n,I)],.map z8,.iter (yu a1.kind) d51,b,.cells cs] (.ms 5 0 n)=E0 (sl 8 bp v.2.units):=by
     have hu:v.2.units=E0 (v.2.units.getD []):=by cases hq:v.2.units with
      |some _=>rfl
      |none=>rw[hq]at hs;cases hs
     rw[hn]at gO ⊢
     rw[hu]
     exact uT dJ gO g2
    refine ko rfl this (v':=.aB [aG v1 v.2.au v.2.ae v.2.units,Iv 0]) ?_ (by first|rfl|simp only[go_sem,seval])
    simp only[go_sem,seval,fz]<;>rfl
end Go.Z
end
