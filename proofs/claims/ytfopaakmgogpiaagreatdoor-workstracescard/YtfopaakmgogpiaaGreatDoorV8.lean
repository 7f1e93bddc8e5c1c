/- Chapter 10. -/
import Derived.Test.YtfopaakmgogpiaaGreatDoorW10
import Derived.Test.YtfopaakmgogpiaaGreatDoorW15
set_option linter.unusedVariables false
set_option linter.unusedSimpArgs false
set_option maxRecDepth 100000
set_option maxHeartbeats 4000000
noncomputable section
open Bool renaming false→I,cond_eq_ite→El
open Nat renaming eq_of_beq_eq_true→Eh,beq→Eo
open Option renaming some→En,none→Ev
namespace Go.Z
open Go Go.Abs Go.W
def f117 (a1:ql)(aM:Int)(aJ:Option (List qj))(aH:Option (List qn))(ay:Option (List qe)):Option (Int×(Option (List qe))):=
 jx (zq (a1.names.getD []) 0) fun v1=>
 jx (f93 (⟨aM,aJ,aH,ay⟩) v1) fun v3=>
 jx (zq (ay.getD []) v3) fun v5=>
 jx (f75 (⟨aM,aJ,aH,ay⟩) v5) fun v7=>
 cond (decide (v7=0))
  (jx (Vi ay v3) fun v10=>
  En (0,v10))
  (En (v7,ay))
theorem zdi {a1:ql}{aM:Int}{aJ:Option (List qj)}{aH:Option (List qn)}{ay:Option (List qe)}{x1:qm}{x2:qm}{x3:qm}{r}(h:f117 a1 aM aJ aH ay=En r):zg pr (X pr) 117 [.ptr 0 0,aE a1] [kR aM aJ aH ay,x1,x2,x3]=En (Iv r.1,I,[kR aM aJ aH r.2,x1,x2,x3]):=by
 unfold f117 at h
 rw[zh (show pr.bH 117=En sx from rfl) (by simp)]
 repeat' first|(replace h:=jy h;obtain⟨d,g,h⟩:=h;with_reducible first|replace g:=wA g|replace g:=W75 g|replace g:=jdf g|skip)|(replace h:=j6 h;rcases h with⟨g,h⟩|⟨g,h⟩)|fail
 all_goals (cases h<;>(simp only[go_sem,seval,sx,zn, *]<;>rfl))
end Go.Z
namespace Go.Z
open Go Go.Abs Go.W
def AZ (a0:qc)(a1:ql):Option (Option (Nat)⊕(Nat⊕Nat)):=
 cond (decide (0<(yu a1.kind).length))
  (cond (decide (((zf (yu a1.kind) 0).1:Int)=45))
   (En (.inl (En (0+(zf (yu a1.kind) 0).2))))
   (jx (zq (a1.names.getD []) (0:Int)) fun Ip=>
   jx (f202 a0 ((zf (yu a1.kind) 0).1:Int) Ip) fun yD=>
   cond yD
    (En (.inl (En (0+(zf (yu a1.kind) 0).2))))
    (En (.inr (.inl (0+(zf (yu a1.kind) 0).2))))))
  (En (.inr (.inr 0)))
def wh (a0:qc)(a1:ql)(s0:Nat):Option (Option (Nat)⊕(Nat⊕Nat)):=
 cond (decide (s0<(yu a1.kind).length))
  (cond (decide (((zf (yu a1.kind) s0).1:Int)=45))
   (En (.inl (En (s0+(zf (yu a1.kind) s0).2))))
   (jx (zq (a1.names.getD []) (s0:Int)) fun yE=>
   jx (f202 a0 ((zf (yu a1.kind) s0).1:Int) yE) fun Bh=>
   cond Bh
    (En (.inl (En (s0+(zf (yu a1.kind) s0).2))))
    (En (.inr (.inl (s0+(zf (yu a1.kind) s0).2))))))
  (En (.inr (.inr s0)))
def Ef (a0:qc)(a1:ql):Option (Nat)→Option (Option (Nat)⊕(Nat⊕Nat))
 |none=>AZ a0 a1
 |some x=>wh a0 a1 x
def Iq (a0:qc)(a1:ql)(s0:Nat):qh:=⟨[(2,.ptr 0 0,I),(3,.ah (aE a1),I),(4,.ptr 1 0,I),(6,.ah (.agg [.str (yu a1.kind),Iv (mU a1.kind),lE a1.kind]),I),(24,.ptr 3 0,I),(41,.bool I,I)],[.cells [(Iv a0.day,I),(sl 5 z8 a0.aq,I),(sl 4 zu a0.ae,I),(sl 8 bf a0.units,I)],kZ,.map ya,.iter (yu a1.kind) s0]⟩
def yF (a0:qc)(a1:ql):Option (Nat)→qh
 |none=>⟨[(2,.ptr 0 0,I),(3,.ah (aE a1),I),(4,.ptr 1 0,I),(6,.ah (.agg [.str (yu a1.kind),Iv (mU a1.kind),lE a1.kind]),I),(24,.ptr 3 0,I)],[.cells [(Iv a0.day,I),(sl 5 z8 a0.aq,I),(sl 4 zu a0.ae,I),(sl 8 bf a0.units,I)],kZ,.map ya,.iter (yu a1.kind) 0]⟩
 |some x=>Iq a0 a1 x
def yG (a0:qc)(a1:ql):Nat⊕Nat→qo×qh
 | .inl d=>(.ret,⟨[(4,.ptr 1 0,I),(5,Iv 10,I)],[.cells [(Iv a0.day,I),(sl 5 z8 a0.aq,I),(sl 4 zu a0.ae,I),(sl 8 bf a0.units,I)],kZ,.map ya,.iter (yu a1.kind) d]⟩)
 | .inr d=>(.exit 0,⟨[(2,.ptr 0 0,I),(3,.ah (aE a1),I),(4,.ptr 1 0,I),(6,.ah (.agg [.str (yu a1.kind),Iv (mU a1.kind),lE a1.kind]),I),(24,.ptr 3 0,I),(25,.az [.bool I],I),(26,.bool I,I)],[.cells [(Iv a0.day,I),(sl 5 z8 a0.aq,I),(sl 4 zu a0.ae,I),(sl 8 bf a0.units,I)],kZ,.map ya,.iter (yu a1.kind) d]⟩)
theorem jk6 (a0:qc)(a1:ql)(r)(h:AZ a0 a1=En r):y5 pr sA (yF a0 a1) (yG a0 a1) Ev r:=by
 unfold AZ at h
 repeat' first|(replace h:=jy h;obtain⟨d,g,h⟩:=h;with_reducible first|replace g:=jpb g|skip)|(replace h:=j6 h;rcases h with⟨g,h⟩|⟨g,h⟩)|fail
 all_goals (cases h<;>(first|(refine z6 ?_;simp only[go_sem,seval,sA,yF,Iq,xH,zn,yG, *]<;>rfl)|(refine yo ?_;simp only[go_sem,seval,sA,yF,Iq,xH,zn,yG, *]<;>rfl)))
theorem jkz (a0:qc)(a1:ql)(s0:Nat)(r)(h:wh a0 a1 s0=En r):y5 pr sA (yF a0 a1) (yG a0 a1) (En s0) r:=by
 unfold wh at h
 repeat' first|(replace h:=jy h;obtain⟨d,g,h⟩:=h;with_reducible first|replace g:=jpb g|skip)|(replace h:=j6 h;rcases h with⟨g,h⟩|⟨g,h⟩)|fail
 all_goals (cases h<;>(first|(refine z6 ?_;simp only[go_sem,seval,sA,yF,Iq,xH,zn,yG, *]<;>rfl)|(refine yo ?_;simp only[go_sem,seval,sA,yF,Iq,xH,zn,yG, *]<;>rfl)))
theorem jtj (a0:qc)(a1:ql):∀(x:Option (Nat)) (r) (h:Ef a0 a1 x=En r),y5 pr sA (yF a0 a1) (yG a0 a1) x r
 |none,r,h=>jk6 a0 a1 r h
 |some x,r,h=>jkz a0 a1 x r h
theorem q98 (a0:qc)(a1:ql){s0:Option (Nat)}{d}(h:bj (Ef a0 a1) s0=En d):X pr (.loop sA) (yF a0 a1 s0)=En (yG a0 a1 d):=kl (jtj a0 a1) (fun d=>by rcases d with d|d<;>(intro hh;cases hh)) h
def eS (k:Nat)(a0:qc)(a1:ql):Option (Int×qc):=
 bif Eo k 105 then jx (f105 a1 a0.day a0.aq a0.ae a0.units) fun v=>En (v.1,{ a0 with aq:=v.2.1 })else
 bif Eo k 106 then jx (f106 a1 a0.day a0.aq a0.ae a0.units) fun v=>En (v.1,{ a0 with ae:=v.2.1 })else
 bif Eo k 107 then jx (f107 a1 a0.day a0.aq a0.ae a0.units) fun v=>En (v.1,{ a0 with ae:=v.2 })else
 bif Eo k 108 then jx (f108 a1 a0.day a0.aq a0.ae a0.units) fun v=>En (v.1,{ a0 with ae:=v.2 })else
 bif Eo k 109 then jx (f109 a1 a0.day a0.aq a0.ae a0.units) fun v=>En (v.1,{ a0 with ae:=v.2 })else
 bif Eo k 110 then jx (f110 a1 a0.day a0.aq a0.ae a0.units) fun v=>En (v.1,{ a0 with units:=v.2.1 })else
 bif Eo k 112 then jx (f112 a1 a0.day a0.aq a0.ae a0.units) fun v=>En (v.1,{ a0 with units:=v.2 })else
 bif Eo k 113 then jx (f113 a1 a0.day a0.aq a0.ae a0.units) fun v=>En (v.1,{ a0 with units:=v.2 })else
 bif Eo k 114 then jx (f114 a1 a0.day a0.aq a0.ae a0.units) fun v=>En (v.1,{ a0 with units:=v.2 })else
 bif Eo k 115 then jx (f115 a1 a0.day a0.aq a0.ae a0.units) fun v=>En (v.1,{ a0 with aq:=v.2 })else
 bif Eo k 116 then jx (f116 a1 a0.day a0.aq a0.ae a0.units) fun v=>En (v.1,{ a0 with aq:=v.2 })else
 bif Eo k 117 then jx (f117 a1 a0.day a0.aq a0.ae a0.units) fun v=>En (v.1,{ a0 with units:=v.2 })else
 bif Eo k 118 then jx (f118 a1 a0.day a0.aq a0.ae a0.units) fun v=>En (v.1,{ a0 with units:=v.2 })else
 bif Eo k 111 then jx (f111 a1 a0.day a0.aq a0.ae a0.units) fun v=>En (v.1,{ a0 with aq:=v.2.1,units:=v.2.2 })else Ev
theorem jdc {k:Nat}{a0:qc}{a1:ql}{x1 x2 x3:qm}{v}(h:eS k a0 a1=En v):
  (∃w1 w2 w3:Bool,zg pr (X pr) k [.ptr 0 0,aE a1] [.cells [(Iv a0.day,I),(sl 5 z8 a0.aq,I),(sl 4 zu a0.ae,I),(sl 8 bf a0.units,I)],x1,x2,x3]=En (Iv v.1,I,[.cells [(Iv v.2.day,I),(sl 5 z8 v.2.aq,w1),(sl 4 zu v.2.ae,w2),(sl 8 bf v.2.units,w3)],x1,x2,x3])∧v.2.day=a0.day) ∨
  (v.1=0∧v.2.day=a0.day∧∃(n:Nat) (b:qm) (cs:List (qa×Bool)),zg pr (X pr) k [.ptr 0 0,aE a1] [.cells [(Iv a0.day,I),(sl 5 z8 a0.aq,I),(sl 4 zu a0.ae,I),(sl 8 bf a0.units,I)],x1,x2,x3]=En (Iv 0,I,[.cells [(Iv v.2.day,I),(sl 5 z8 v.2.aq,I),(sl 4 zu v.2.ae,I),(.ms 5 0 n,I)],x1,x2,x3,b,.cells cs])∧cs.map (·.1)=yv bf (v.2.units.getD [])∧n=(v.2.units.getD []).length∧0<n∧v.2.units.isSome=true):=by
 unfold eS at h
 rw[El]at h
 split at h
 ·rename_i hk
  rw[Eh hk]
  obtain⟨y,hy,h⟩:=jy h
  cases h
  exact .inl ⟨y.2.2,I,I,j95 hy,rfl⟩
 rw[El]at h
 split at h
 ·rename_i hk
  rw[Eh hk]
  obtain⟨y,hy,h⟩:=jy h
  cases h
  exact .inl ⟨I,y.2.2,I,zh1 hy,rfl⟩
 rw[El]at h
 split at h
 ·rename_i hk
  rw[Eh hk]
  obtain⟨y,hy,h⟩:=jy h
  cases h
  exact .inl ⟨I,I,I,zh0 hy,rfl⟩
 rw[El]at h
 split at h
 ·rename_i hk
  rw[Eh hk]
  obtain⟨y,hy,h⟩:=jy h
  cases h
  exact .inl ⟨I,I,I,zbm hy,rfl⟩
 rw[El]at h
 split at h
 ·rename_i hk
  rw[Eh hk]
  obtain⟨y,hy,h⟩:=jy h
  cases h
  exact .inl ⟨I,I,I,zfv hy,rfl⟩
 rw[El]at h
 split at h
 ·rename_i hk
  rw[Eh hk]
  obtain⟨y,hy,h⟩:=jy h
  cases h
  exact .inl ⟨I,I,y.2.2,zgy hy,rfl⟩
 rw[El]at h
 split at h
 ·rename_i hk
  rw[Eh hk]
  obtain⟨y,hy,h⟩:=jy h
  cases h
  exact .inl ⟨I,I,I,zed hy,rfl⟩
 rw[El]at h
 split at h
 ·rename_i hk
  rw[Eh hk]
  obtain⟨y,hy,h⟩:=jy h
  cases h
  exact .inl ⟨I,I,I,zhp hy,rfl⟩
 rw[El]at h
 split at h
 ·rename_i hk
  rw[Eh hk]
  obtain⟨y,hy,h⟩:=jy h
  cases h
  exact .inl ⟨I,I,I,zck hy,rfl⟩
 rw[El]at h
 split at h
 ·rename_i hk
  rw[Eh hk]
  obtain⟨y,hy,h⟩:=jy h
  cases h
  exact .inl ⟨I,I,I,zc0 hy,rfl⟩
 rw[El]at h
 split at h
 ·rename_i hk
  rw[Eh hk]
  obtain⟨y,hy,h⟩:=jy h
  cases h
  exact .inl ⟨I,I,I,zdg hy,rfl⟩
 rw[El]at h
 split at h
 ·rename_i hk
  rw[Eh hk]
  obtain⟨y,hy,h⟩:=jy h
  cases h
  exact .inl ⟨I,I,I,zdi hy,rfl⟩
 rw[El]at h
 split at h
 ·rename_i hk
  rw[Eh hk]
  obtain⟨y,hy,h⟩:=jy h
  cases h
  exact .inl ⟨I,I,I,zff hy,rfl⟩
 rw[El]at h
 split at h
 ·rename_i hk
  rw[Eh hk]
  obtain⟨y,hy,h⟩:=jy h
  cases h
  rcases zan (x1:=x1) (x2:=x2) (x3:=x3) hy with⟨h1,h2,h3⟩|⟨h1,n,b,cs,h2,h3,h4,h5⟩
  ·refine .inl ⟨I,I,I,?_,rfl⟩
   rcases y with⟨y1,y2⟩
   cases h2
   exact h3
  ·refine .inr ⟨h1,rfl,n,b,cs,h2,h3,h4,h5,?_⟩
   show y.2.2.isSome=true
   cases hu:y.2.2 with
   |some _=>rfl
   |none=>rw[hu]at h4;simp at h4;omega
 ·cases h
def Hu (x:List UInt8):Nat:=match oo x with
 |some f=>f.2.2.2
 |none=>0
theorem jgv (x:List UInt8):lE x=fnv (Hu x):=by
 unfold lE Hu
 cases oo x<;>rfl
theorem jdd {k:Nat}{a0:qc}{a1:ql}{v}(h:eS k a0 a1=En v):fnv k=.fn (.func k) [] []:=by
 cases hk:Eo k 0 with
 |false=>simp only[fnv,hk,cond_false]
 |true=>rw[Eh hk]at h;cases h
def f121 (a0:qc)(a1:ql):Option (qc×Int):=
 jx (zq (a1.values.getD []) 0) fun v1=>
 cond (decide (v1<a0.day))
  (En (⟨0,Ev,Ev,Ev⟩,20))
  (jx (bj (Ef a0 a1) Ev) fun d48=>match d48 with
   | .inl d50=>
    En (⟨0,Ev,Ev,Ev⟩,10)
   | .inr d51=>
    jx (eS (Hu a1.kind) a0 a1) fun v=>
    cond (decide (v.1=0))
     (En ({ v.2 with day:=v1 },0))
     (En (⟨0,Ev,Ev,Ev⟩,v.1)))
theorem jpg {a0:qc}{a1:ql}{r}(h:f121 a0 a1=En r):jz pr (X pr) 121 [aR a0,aE a1]=En (.az [aR r.1,Iv r.2],I):=by
 unfold f121 at h
 obtain⟨v1,h2,h⟩:=jy h
 rcases j6 h with⟨h3,h⟩|⟨h3,h⟩
 ·have hr:(⟨0,Ev,Ev,Ev⟩,20)=r:=En.inj h
  subst hr
  have this:∃hh,zg pr (X pr) 121 [aR a0,aE a1] []=En (.az [aZ,Iv 20],I,hh):=by
   rw[zh (show pr.bH 121=En gu from rfl) (by simp)]
   simp only[go_sem,seval,gu,ky h2,h3]
   exact⟨_,rfl⟩
  obtain⟨hh,this⟩:=this
  exact k9 rfl this (by first|rfl|simp only[go_sem,seval]) (by first|rfl|simp only[go_sem,seval])
 ·obtain⟨d48,N8,h⟩:=jy h
  rcases d48 with d50|d51
  ·have oH:X pr (.loop sA) ⟨[(2,.ptr 0 0,I),(3,.ah (aE a1),I),(4,.ptr 1 0,I),(6,.ah (.agg [.str (yu a1.kind),Iv (mU a1.kind),lE a1.kind]),I),(24,.ptr 3 0,I)],[kR a0.day a0.aq a0.ae a0.units,kZ,.map ya,.iter (yu a1.kind) 0]⟩=En (.ret,⟨[(4,.ptr 1 0,I),(5,Iv 10,I)],[kR a0.day a0.aq a0.ae a0.units,kZ,.map ya,.iter (yu a1.kind) d50]⟩):=q98 a0 a1 N8
   have hr:(⟨0,Ev,Ev,Ev⟩,10)=r:=En.inj h
   subst hr
   have this:∃hh,zg pr (X pr) 121 [aR a0,aE a1] []=En (.az [aZ,Iv 10],I,hh):=by
    rw[zh (show pr.bH 121=En gu from rfl) (by simp)]
    simp only[go_sem,seval,gu,ky h2,h3,Nv,oH]
    exact⟨_,rfl⟩
   obtain⟨hh,this⟩:=this
   exact k9 rfl this (by first|rfl|simp only[go_sem,seval]) (by first|rfl|simp only[go_sem,seval])
  ·have oH:X pr (.loop sA) ⟨[(2,.ptr 0 0,I),(3,.ah (aE a1),I),(4,.ptr 1 0,I),(6,.ah (.agg [.str (yu a1.kind),Iv (mU a1.kind),lE a1.kind]),I),(24,.ptr 3 0,I)],[kR a0.day a0.aq a0.ae a0.units,kZ,.map ya,.iter (yu a1.kind) 0]⟩=En (.exit 0,⟨[(2,.ptr 0 0,I),(3,.ah (aE a1),I),(4,.ptr 1 0,I),(6,.ah (.agg [.str (yu a1.kind),Iv (mU a1.kind),lE a1.kind]),I),(24,.ptr 3 0,I),(25,.az [.bool I],I),(26,.bool I,I)],[kR a0.day a0.aq a0.ae a0.units,kZ,.map ya,.iter (yu a1.kind) d51]⟩):=q98 a0 a1 N8
   obtain⟨v,hv,h⟩:=jy h
   have hfn:lE a1.kind=.fn (.func (Hu a1.kind)) [] []:=by rw[jgv];exact jdd hv
   simp only[hfn]at oH
   have af:∀(n:Int) (b:qm),yx 4 (Iv n) [b,kZ,.map ya,.iter (yu a1.kind) d51]=[b,kZ,.map ya,.iter (yu a1.kind) d51]:=fun _ _=>sB rfl
   rcases jdc (x1:=kZ) (x2:=.map ya) (x3:=.iter (yu a1.kind) d51) hv with⟨w1,w2,w3,g,hd⟩|⟨h0,hd,n,b,cs,g,g2,hn,gR,hs⟩
   ·rcases j6 h with⟨h5,h⟩|⟨h5,h⟩
    ·cases h
     have this:∃hh,zg pr (X pr) 121 [aR a0,aE a1] []=En (.az [aG v1 v.2.aq v.2.ae v.2.units,Iv 0],I,hh):=by
      rw[zh (show pr.bH 121=En gu from rfl) (by simp)]
      simp only[go_sem,seval,gu,ky h2,h3,Nv,oH,hfn,g,af,h5]
      exact⟨_,rfl⟩
     obtain⟨hh,this⟩:=this
     exact k9 rfl this (by first|rfl|simp only[go_sem,seval]) (by first|rfl|simp only[go_sem,seval])
    ·cases h
     have this:∃hh,zg pr (X pr) 121 [aR a0,aE a1] []=En (.az [aZ,Iv v.1],I,hh):=by
      rw[zh (show pr.bH 121=En gu from rfl) (by simp)]
      simp only[go_sem,seval,gu,ky h2,h3,Nv,oH,hfn,g,af,h5]
      exact⟨_,rfl⟩
     obtain⟨hh,this⟩:=this
     exact k9 rfl this (by first|rfl|simp only[go_sem,seval]) (by first|rfl|simp only[go_sem,seval])
   ·have h5:decide (v.1=0)=true:=dT h0
    rw[h5]at h
    cases h
    have ab:∀(n:Int) (c:qm),yx 4 (Iv n) [c,kZ,.map ya,.iter (yu a1.kind) d51,b,.cells cs]=(bif oN 4 c&&ko 4 [kZ,.map ya,.iter (yu a1.kind) d51]then [c,kZ,.map ya,.iter (yu a1.kind) d51]else [c,kZ,.map ya,.iter (yu a1.kind) d51,b,.cells cs]):=fun _ _=>rfl
    have this:zg pr (X pr) 121 [aR a0,aE a1] []=En (.az [.agg [Iv v1,sl 5 z8 v.2.aq,sl 4 zu v.2.ae,.ms 5 0 n],Iv 0],I,[.cells [(Iv v1,I),(sl 5 z8 v.2.aq,I),(sl 4 zu v.2.ae,I),(.ms 5 0 n,I)],.cells [(Iv v1,I),(sl 5 z8 v.2.aq,I),(sl 4 zu v.2.ae,I),(.ms 5 0 n,I)],.map ya,.iter (yu a1.kind) d51,b,.cells cs]):=by
     rw[zh (show pr.bH 121=En gu from rfl) (by simp)]
     simp only[go_sem,seval,gu,ky h2,h3,Nv,oH,hfn,g,(show ∀n,below 4 (.ms 5 0 n)=I from fun _=>rfl),Bool.false_and,Bool.and_false,cond_false]<;>rfl
    have fz:iG [.cells [(Iv v1,I),(sl 5 z8 v.2.aq,I),(sl 4 zu v.2.ae,I),(.ms 5 0 n,I)],.cells [(Iv v1,I),(sl 5 z8 v.2.aq,I),(sl 4 zu v.2.ae,I),(.ms 5 0 n,I)],.map ya,.iter (yu a1.kind) d51,b,.cells cs] (.ms 5 0 n)=En (sl 8 bf v.2.units):=by
     have hu:v.2.units=En (v.2.units.getD []):=by cases hq:v.2.units with
      |some _=>rfl
      |none=>rw[hq]at hs;cases hs
     rw[hn]at gR ⊢
     rw[hu]
     exact vg dK gR g2
    refine k9 rfl this (v':=.az [aG v1 v.2.aq v.2.ae v.2.units,Iv 0]) ?_ (by first|rfl|simp only[go_sem,seval])
    simp only[go_sem,seval,fz]<;>rfl
end Go.Z
end
