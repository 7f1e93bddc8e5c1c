/- Chapter 10. -/
import Derived.Test.YtfopaakmgogpiaaGreatDoorW10
import Derived.Test.YtfopaakmgogpiaaGreatDoorW15
set_option linter.unusedVariables false
set_option linter.unusedSimpArgs false
set_option maxRecDepth 100000
set_option maxHeartbeats 4000000
noncomputable section
open Bool renaming false→I,cond_eq_ite→Ek
open Nat renaming eq_of_beq_eq_true→Eh,beq→Eo
open Option renaming some→En,none→Ep
namespace Go.Z
open Go Go.Abs Go.W
def f117 (a1:ql)(aM:Int)(aJ:Option (List qm))(aC:Option (List qq))(ax:Option (List qf)):Option (Int×(Option (List qf))):=
 jw (zn (a1.names.getD []) 0) fun v1=>
 jw (f93 (⟨aM,aJ,aC,ax⟩) v1) fun v3=>
 jw (zn (ax.getD []) v3) fun v5=>
 jw (f75 (⟨aM,aJ,aC,ax⟩) v5) fun v7=>
 cond (decide (v7=0))
  (jw (WU ax v3) fun v10=>
  En (0,v10))
  (En (v7,ax))
theorem zf0 {a1 aM aJ aC ax x1 x2 x3 r}(h:f117 a1 aM aJ aC ax=En r):ze pr (X pr) 117 [.ptr 0 0,aE a1] [kR aM aJ aC ax,x1,x2,x3]=En (Iv r.1,I,[kR aM aJ aC r.2,x1,x2,x3]):=by
 unfold f117 at h
 rw[zf (show pr.bB 117=En sP from rfl) (by simp)]
 repeat' first|(replace h:=jx h;obtain⟨d,g,h⟩:=h;with_reducible first|replace g:=vD g|replace g:=W75 g|replace g:=je3 g|skip)|(replace h:=jz h;rcases h with⟨g,h⟩|⟨g,h⟩)|fail
 all_goals (cases h<;>(simp only[go_sem,seval,sP,zj, *]<;>rfl))
end Go.Z
namespace Go.Z
open Go Go.Abs Go.W
def Bt (a0:qc)(a1:ql):Option (Option (Nat)⊕(Nat⊕Nat)):=
 cond (decide (0<(yu a1.kind).length))
  (cond (decide (((zg (yu a1.kind) 0).1:Int)=45))
   (En (.inl (En (0+(zg (yu a1.kind) 0).2))))
   (jw (zn (a1.names.getD []) (0:Int)) fun JJ=>
   jw (f202 a0 ((zg (yu a1.kind) 0).1:Int) JJ) fun yX=>
   cond yX
    (En (.inl (En (0+(zg (yu a1.kind) 0).2))))
    (En (.inr (.inl (0+(zg (yu a1.kind) 0).2))))))
  (En (.inr (.inr 0)))
def wD (a0:qc)(a1:ql)(s0:Nat):Option (Option (Nat)⊕(Nat⊕Nat)):=
 cond (decide (s0<(yu a1.kind).length))
  (cond (decide (((zg (yu a1.kind) s0).1:Int)=45))
   (En (.inl (En (s0+(zg (yu a1.kind) s0).2))))
   (jw (zn (a1.names.getD []) (s0:Int)) fun yY=>
   jw (f202 a0 ((zg (yu a1.kind) s0).1:Int) yY) fun BP=>
   cond BP
    (En (.inl (En (s0+(zg (yu a1.kind) s0).2))))
    (En (.inr (.inl (s0+(zg (yu a1.kind) s0).2))))))
  (En (.inr (.inr s0)))
def Fe (a0:qc)(a1:ql):Option (Nat)→Option (Option (Nat)⊕(Nat⊕Nat))
 |none=>Bt a0 a1
 |some x=>wD a0 a1 x
def JK (a0:qc)(a1:ql)(s0:Nat):qg:=⟨[(2,.ptr 0 0,I),(3,.ah (aE a1),I),(4,.ptr 1 0,I),(6,.ah (.agg [.str (yu a1.kind),Iv (nj a1.kind),lO a1.kind]),I),(24,.ptr 3 0,I),(41,.bool I,I)],[.cells [(Iv a0.day,I),(sl 5 zw a0.ar,I),(sl 4 zm a0.ae,I),(sl 8 aQ a0.units,I)],kZ,.map z6,.iter (yu a1.kind) s0]⟩
def yZ (a0:qc)(a1:ql):Option (Nat)→qg
 |none=>⟨[(2,.ptr 0 0,I),(3,.ah (aE a1),I),(4,.ptr 1 0,I),(6,.ah (.agg [.str (yu a1.kind),Iv (nj a1.kind),lO a1.kind]),I),(24,.ptr 3 0,I)],[.cells [(Iv a0.day,I),(sl 5 zw a0.ar,I),(sl 4 zm a0.ae,I),(sl 8 aQ a0.units,I)],kZ,.map z6,.iter (yu a1.kind) 0]⟩
 |some x=>JK a0 a1 x
def zb (a0:qc)(a1:ql):Nat⊕Nat→qi×qg
 | .inl d=>(.ret,⟨[(4,.ptr 1 0,I),(5,Iv 10,I)],[.cells [(Iv a0.day,I),(sl 5 zw a0.ar,I),(sl 4 zm a0.ae,I),(sl 8 aQ a0.units,I)],kZ,.map z6,.iter (yu a1.kind) d]⟩)
 | .inr d=>(.exit 0,⟨[(2,.ptr 0 0,I),(3,.ah (aE a1),I),(4,.ptr 1 0,I),(6,.ah (.agg [.str (yu a1.kind),Iv (nj a1.kind),lO a1.kind]),I),(24,.ptr 3 0,I),(25,.ay [.bool I],I),(26,.bool I,I)],[.cells [(Iv a0.day,I),(sl 5 zw a0.ar,I),(sl 4 zm a0.ae,I),(sl 8 aQ a0.units,I)],kZ,.map z6,.iter (yu a1.kind) d]⟩)
theorem jnb (a0:qc)(a1:ql)(r)(h:Bt a0 a1=En r):yr pr sQ (yZ a0 a1) (zb a0 a1) Ep r:=by
 unfold Bt at h
 repeat' first|(replace h:=jx h;obtain⟨d,g,h⟩:=h;with_reducible first|replace g:=jp0 g|skip)|(replace h:=jz h;rcases h with⟨g,h⟩|⟨g,h⟩)|fail
 all_goals (cases h<;>(first|(refine zu ?_;simp only[go_sem,seval,sQ,yZ,JK,xY,zj,zb, *]<;>rfl)|(refine yl ?_;simp only[go_sem,seval,sQ,yZ,JK,xY,zj,zb, *]<;>rfl)))
theorem jmq (a0:qc)(a1:ql)(s0:Nat)(r)(h:wD a0 a1 s0=En r):yr pr sQ (yZ a0 a1) (zb a0 a1) (En s0) r:=by
 unfold wD at h
 repeat' first|(replace h:=jx h;obtain⟨d,g,h⟩:=h;with_reducible first|replace g:=jp0 g|skip)|(replace h:=jz h;rcases h with⟨g,h⟩|⟨g,h⟩)|fail
 all_goals (cases h<;>(first|(refine zu ?_;simp only[go_sem,seval,sQ,yZ,JK,xY,zj,zb, *]<;>rfl)|(refine yl ?_;simp only[go_sem,seval,sQ,yZ,JK,xY,zj,zb, *]<;>rfl)))
theorem js2 (a0:qc)(a1:ql):∀(x:Option (Nat)) (r) (h:Fe a0 a1 x=En r),yr pr sQ (yZ a0 a1) (zb a0 a1) x r
 |none,r,h=>jnb a0 a1 r h
 |some x,r,h=>jmq a0 a1 x r h
theorem jeo (a0:qc)(a1:ql){s0 d}(h:aY (Fe a0 a1) s0=En d):X pr (.loop sQ) (yZ a0 a1 s0)=En (zb a0 a1 d):=y8 (js2 a0 a1) (fun d=>by rcases d with d|d<;>(intro hh;cases hh)) h
def eT (k:Nat)(a0:qc)(a1:ql):Option (Int×qc):=
 bif Eo k 105 then jw (f105 a1 a0.day a0.ar a0.ae a0.units) fun v=>En (v.1,{ a0 with ar:=v.2.1 })else
 bif Eo k 106 then jw (f106 a1 a0.day a0.ar a0.ae a0.units) fun v=>En (v.1,{ a0 with ae:=v.2.1 })else
 bif Eo k 107 then jw (f107 a1 a0.day a0.ar a0.ae a0.units) fun v=>En (v.1,{ a0 with ae:=v.2 })else
 bif Eo k 108 then jw (f108 a1 a0.day a0.ar a0.ae a0.units) fun v=>En (v.1,{ a0 with ae:=v.2 })else
 bif Eo k 109 then jw (f109 a1 a0.day a0.ar a0.ae a0.units) fun v=>En (v.1,{ a0 with ae:=v.2 })else
 bif Eo k 110 then jw (f110 a1 a0.day a0.ar a0.ae a0.units) fun v=>En (v.1,{ a0 with units:=v.2.1 })else
 bif Eo k 112 then jw (f112 a1 a0.day a0.ar a0.ae a0.units) fun v=>En (v.1,{ a0 with units:=v.2 })else
 bif Eo k 113 then jw (f113 a1 a0.day a0.ar a0.ae a0.units) fun v=>En (v.1,{ a0 with units:=v.2 })else
 bif Eo k 114 then jw (f114 a1 a0.day a0.ar a0.ae a0.units) fun v=>En (v.1,{ a0 with units:=v.2 })else
 bif Eo k 115 then jw (f115 a1 a0.day a0.ar a0.ae a0.units) fun v=>En (v.1,{ a0 with ar:=v.2 })else
 bif Eo k 116 then jw (f116 a1 a0.day a0.ar a0.ae a0.units) fun v=>En (v.1,{ a0 with ar:=v.2 })else
 bif Eo k 117 then jw (f117 a1 a0.day a0.ar a0.ae a0.units) fun v=>En (v.1,{ a0 with units:=v.2 })else
 bif Eo k 118 then jw (f118 a1 a0.day a0.ar a0.ae a0.units) fun v=>En (v.1,{ a0 with units:=v.2 })else
 bif Eo k 111 then jw (f111 a1 a0.day a0.ar a0.ae a0.units) fun v=>En (v.1,{ a0 with ar:=v.2.1,units:=v.2.2 })else Ep
theorem jj8 {k a0 a1 x1 x2 x3 v}(h:eT k a0 a1=En v):
  (∃w1 w2 w3:Bool,ze pr (X pr) k [.ptr 0 0,aE a1] [.cells [(Iv a0.day,I),(sl 5 zw a0.ar,I),(sl 4 zm a0.ae,I),(sl 8 aQ a0.units,I)],x1,x2,x3]=En (Iv v.1,I,[.cells [(Iv v.2.day,I),(sl 5 zw v.2.ar,w1),(sl 4 zm v.2.ae,w2),(sl 8 aQ v.2.units,w3)],x1,x2,x3])∧v.2.day=a0.day) ∨
  (v.1=0∧v.2.day=a0.day∧∃(n:Nat) (b:qn) (cs:List (qa×Bool)),ze pr (X pr) k [.ptr 0 0,aE a1] [.cells [(Iv a0.day,I),(sl 5 zw a0.ar,I),(sl 4 zm a0.ae,I),(sl 8 aQ a0.units,I)],x1,x2,x3]=En (Iv 0,I,[.cells [(Iv v.2.day,I),(sl 5 zw v.2.ar,I),(sl 4 zm v.2.ae,I),(.ms 5 0 n,I)],x1,x2,x3,b,.cells cs])∧cs.map (·.1)=yw aQ (v.2.units.getD [])∧n=(v.2.units.getD []).length∧0<n∧v.2.units.isSome=true):=by
 unfold eT at h
 rw[Ek]at h
 split at h
 ·rename_i hk
  rw[Eh hk]
  obtain⟨y,hy,h⟩:=jx h
  cases h
  exact .inl ⟨y.2.2,I,I,za0 hy,rfl⟩
 rw[Ek]at h
 split at h
 ·rename_i hk
  rw[Eh hk]
  obtain⟨y,hy,h⟩:=jx h
  cases h
  exact .inl ⟨I,y.2.2,I,zgv hy,rfl⟩
 rw[Ek]at h
 split at h
 ·rename_i hk
  rw[Eh hk]
  obtain⟨y,hy,h⟩:=jx h
  cases h
  exact .inl ⟨I,I,I,ziw hy,rfl⟩
 rw[Ek]at h
 split at h
 ·rename_i hk
  rw[Eh hk]
  obtain⟨y,hy,h⟩:=jx h
  cases h
  exact .inl ⟨I,I,I,zhm hy,rfl⟩
 rw[Ek]at h
 split at h
 ·rename_i hk
  rw[Eh hk]
  obtain⟨y,hy,h⟩:=jx h
  cases h
  exact .inl ⟨I,I,I,zep hy,rfl⟩
 rw[Ek]at h
 split at h
 ·rename_i hk
  rw[Eh hk]
  obtain⟨y,hy,h⟩:=jx h
  cases h
  exact .inl ⟨I,I,y.2.2,zi0 hy,rfl⟩
 rw[Ek]at h
 split at h
 ·rename_i hk
  rw[Eh hk]
  obtain⟨y,hy,h⟩:=jx h
  cases h
  exact .inl ⟨I,I,I,zda hy,rfl⟩
 rw[Ek]at h
 split at h
 ·rename_i hk
  rw[Eh hk]
  obtain⟨y,hy,h⟩:=jx h
  cases h
  exact .inl ⟨I,I,I,zd0 hy,rfl⟩
 rw[Ek]at h
 split at h
 ·rename_i hk
  rw[Eh hk]
  obtain⟨y,hy,h⟩:=jx h
  cases h
  exact .inl ⟨I,I,I,zgm hy,rfl⟩
 rw[Ek]at h
 split at h
 ·rename_i hk
  rw[Eh hk]
  obtain⟨y,hy,h⟩:=jx h
  cases h
  exact .inl ⟨I,I,I,zi1 hy,rfl⟩
 rw[Ek]at h
 split at h
 ·rename_i hk
  rw[Eh hk]
  obtain⟨y,hy,h⟩:=jx h
  cases h
  exact .inl ⟨I,I,I,zbt hy,rfl⟩
 rw[Ek]at h
 split at h
 ·rename_i hk
  rw[Eh hk]
  obtain⟨y,hy,h⟩:=jx h
  cases h
  exact .inl ⟨I,I,I,zf0 hy,rfl⟩
 rw[Ek]at h
 split at h
 ·rename_i hk
  rw[Eh hk]
  obtain⟨y,hy,h⟩:=jx h
  cases h
  exact .inl ⟨I,I,I,zbk hy,rfl⟩
 rw[Ek]at h
 split at h
 ·rename_i hk
  rw[Eh hk]
  obtain⟨y,hy,h⟩:=jx h
  cases h
  rcases zkf (x1:=x1) (x2:=x2) (x3:=x3) hy with⟨h1,h2,h3⟩|⟨h1,n,b,cs,h2,h3,h4,h5⟩
  ·refine .inl ⟨I,I,I,?_,rfl⟩
   rcases y with⟨y1,y2⟩
   cases h2
   exact h3
  ·refine .inr ⟨h1,rfl,n,b,cs,h2,h3,h4,h5,?_⟩
   show y.2.2.isSome=true
   cases hu:y.2.2 with
   |some _=>rfl
   |none=>rw[hu]at h4;simp at h4;omega
 ·cases h
def IE (x:List UInt8):Nat:=match oI x with
 |some f=>f.2.2.2
 |none=>0
theorem jgu (x:List UInt8):lO x=fnv (IE x):=by
 unfold lO IE
 cases oI x<;>rfl
theorem je7 {k a0 a1 v}(h:eT k a0 a1=En v):fnv k=.fn (.func k) [] []:=by
 cases hk:Eo k 0 with
 |false=>simp only[fnv,hk,cond_false]
 |true=>rw[Eh hk]at h;cases h
def f121 (a0:qc)(a1:ql):Option (qc×Int):=
 jw (zn (a1.values.getD []) 0) fun v1=>
 cond (decide (v1<a0.day))
  (En (⟨0,Ep,Ep,Ep⟩,20))
  (jw (aY (Fe a0 a1) Ep) fun d48=>match d48 with
   | .inl d50=>
    En (⟨0,Ep,Ep,Ep⟩,10)
   | .inr d51=>
    jw (eT (IE a1.kind) a0 a1) fun v=>
    cond (decide (v.1=0))
     (En ({ v.2 with day:=v1 },0))
     (En (⟨0,Ep,Ep,Ep⟩,v.1)))
theorem jsx {a0 a1 r}(h:f121 a0 a1=En r):jy pr (X pr) 121 [aR a0,aE a1]=En (.ay [aR r.1,Iv r.2],I):=by
 unfold f121 at h
 obtain⟨v1,h2,h⟩:=jx h
 rcases jz h with⟨h3,h⟩|⟨h3,h⟩
 ·have hr:(⟨0,Ep,Ep,Ep⟩,20)=r:=En.inj h
  subst hr
  have this:∃hh,ze pr (X pr) 121 [aR a0,aE a1] []=En (.ay [aZ,Iv 20],I,hh):=by
   rw[zf (show pr.bB 121=En gm from rfl) (by simp)]
   simp only[go_sem,seval,gm,yx h2,h3]
   exact⟨_,rfl⟩
  obtain⟨hh,this⟩:=this
  exact kr rfl this (by first|rfl|simp only[go_sem,seval]) (by first|rfl|simp only[go_sem,seval])
 ·obtain⟨d48,PD,h⟩:=jx h
  rcases d48 with d50|d51
  ·have oW:X pr (.loop sQ) ⟨[(2,.ptr 0 0,I),(3,.ah (aE a1),I),(4,.ptr 1 0,I),(6,.ah (.agg [.str (yu a1.kind),Iv (nj a1.kind),lO a1.kind]),I),(24,.ptr 3 0,I)],[kR a0.day a0.ar a0.ae a0.units,kZ,.map z6,.iter (yu a1.kind) 0]⟩=En (.ret,⟨[(4,.ptr 1 0,I),(5,Iv 10,I)],[kR a0.day a0.ar a0.ae a0.units,kZ,.map z6,.iter (yu a1.kind) d50]⟩):=jeo a0 a1 PD
   have hr:(⟨0,Ep,Ep,Ep⟩,10)=r:=En.inj h
   subst hr
   have this:∃hh,ze pr (X pr) 121 [aR a0,aE a1] []=En (.ay [aZ,Iv 10],I,hh):=by
    rw[zf (show pr.bB 121=En gm from rfl) (by simp)]
    simp only[go_sem,seval,gm,yx h2,h3,OX,oW]
    exact⟨_,rfl⟩
   obtain⟨hh,this⟩:=this
   exact kr rfl this (by first|rfl|simp only[go_sem,seval]) (by first|rfl|simp only[go_sem,seval])
  ·have oW:X pr (.loop sQ) ⟨[(2,.ptr 0 0,I),(3,.ah (aE a1),I),(4,.ptr 1 0,I),(6,.ah (.agg [.str (yu a1.kind),Iv (nj a1.kind),lO a1.kind]),I),(24,.ptr 3 0,I)],[kR a0.day a0.ar a0.ae a0.units,kZ,.map z6,.iter (yu a1.kind) 0]⟩=En (.exit 0,⟨[(2,.ptr 0 0,I),(3,.ah (aE a1),I),(4,.ptr 1 0,I),(6,.ah (.agg [.str (yu a1.kind),Iv (nj a1.kind),lO a1.kind]),I),(24,.ptr 3 0,I),(25,.ay [.bool I],I),(26,.bool I,I)],[kR a0.day a0.ar a0.ae a0.units,kZ,.map z6,.iter (yu a1.kind) d51]⟩):=jeo a0 a1 PD
   obtain⟨v,hv,h⟩:=jx h
   have hfn:lO a1.kind=.fn (.func (IE a1.kind)) [] []:=by rw[jgu];exact je7 hv
   simp only[hfn]at oW
   have af:∀(n:Int) (b:qn),y5 4 (Iv n) [b,kZ,.map z6,.iter (yu a1.kind) d51]=[b,kZ,.map z6,.iter (yu a1.kind) d51]:=fun _ _=>sR rfl
   rcases jj8 (x1:=kZ) (x2:=.map z6) (x3:=.iter (yu a1.kind) d51) hv with⟨w1,w2,w3,g,hd⟩|⟨h0,hd,n,b,cs,g,g2,hn,gN,hs⟩
   ·rcases jz h with⟨h5,h⟩|⟨h5,h⟩
    ·cases h
     have this:∃hh,ze pr (X pr) 121 [aR a0,aE a1] []=En (.ay [aG v1 v.2.ar v.2.ae v.2.units,Iv 0],I,hh):=by
      rw[zf (show pr.bB 121=En gm from rfl) (by simp)]
      simp only[go_sem,seval,gm,yx h2,h3,OX,oW,hfn,g,af,h5]
      exact⟨_,rfl⟩
     obtain⟨hh,this⟩:=this
     exact kr rfl this (by first|rfl|simp only[go_sem,seval]) (by first|rfl|simp only[go_sem,seval])
    ·cases h
     have this:∃hh,ze pr (X pr) 121 [aR a0,aE a1] []=En (.ay [aZ,Iv v.1],I,hh):=by
      rw[zf (show pr.bB 121=En gm from rfl) (by simp)]
      simp only[go_sem,seval,gm,yx h2,h3,OX,oW,hfn,g,af,h5]
      exact⟨_,rfl⟩
     obtain⟨hh,this⟩:=this
     exact kr rfl this (by first|rfl|simp only[go_sem,seval]) (by first|rfl|simp only[go_sem,seval])
   ·have h5:decide (v.1=0)=true:=dT h0
    rw[h5]at h
    cases h
    have ab:∀(n:Int) (c:qn),y5 4 (Iv n) [c,kZ,.map z6,.iter (yu a1.kind) d51,b,.cells cs]=(bif nF 4 c&&ko 4 [kZ,.map z6,.iter (yu a1.kind) d51]then [c,kZ,.map z6,.iter (yu a1.kind) d51]else [c,kZ,.map z6,.iter (yu a1.kind) d51,b,.cells cs]):=fun _ _=>rfl
    have this:ze pr (X pr) 121 [aR a0,aE a1] []=En (.ay [.agg [Iv v1,sl 5 zw v.2.ar,sl 4 zm v.2.ae,.ms 5 0 n],Iv 0],I,[.cells [(Iv v1,I),(sl 5 zw v.2.ar,I),(sl 4 zm v.2.ae,I),(.ms 5 0 n,I)],.cells [(Iv v1,I),(sl 5 zw v.2.ar,I),(sl 4 zm v.2.ae,I),(.ms 5 0 n,I)],.map z6,.iter (yu a1.kind) d51,b,.cells cs]):=by
     rw[zf (show pr.bB 121=En gm from rfl) (by simp)]
     simp only[go_sem,seval,gm,yx h2,h3,OX,oW,hfn,g,(show ∀n,below 4 (.ms 5 0 n)=I from fun _=>rfl),Bool.false_and,Bool.and_false,cond_false]<;>rfl
    have fz:iH [.cells [(Iv v1,I),(sl 5 zw v.2.ar,I),(sl 4 zm v.2.ae,I),(.ms 5 0 n,I)],.cells [(Iv v1,I),(sl 5 zw v.2.ar,I),(sl 4 zm v.2.ae,I),(.ms 5 0 n,I)],.map z6,.iter (yu a1.kind) d51,b,.cells cs] (.ms 5 0 n)=En (sl 8 aQ v.2.units):=by
     have hu:v.2.units=En (v.2.units.getD []):=by cases hq:v.2.units with
      |some _=>rfl
      |none=>rw[hq]at hs;cases hs
     rw[hn]at gN ⊢
     rw[hu]
     exact vB dJ gN g2
    refine kr rfl this (v':=.ay [aG v1 v.2.ar v.2.ae v.2.units,Iv 0]) ?_ (by first|rfl|simp only[go_sem,seval])
    simp only[go_sem,seval,fz]<;>rfl
end Go.Z
end
