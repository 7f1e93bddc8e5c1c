/- Chapter 10. -/
import Derived.Test.YtfopaakmgogpiaaGreatDoorW10
import Derived.Test.YtfopaakmgogpiaaGreatDoorW15
import Derived.Test.YtfopaakmgogpiaaGreatDoorAbsL
import Derived.Test.YtfopaakmgogpiaaGreatDoorCA
set_option linter.unusedVariables false
set_option linter.unusedSimpArgs false
set_option maxRecDepth 100000
set_option maxHeartbeats 4000000
noncomputable section
namespace Go.Z
open Go Go.Abs Go.W
def f117 (a1:ql)(c0_0:Int)(c0_1:Option (List qj))(c0_2:Option (List qi))(c0_3:Option (List qf)):Option (Int×(Option (List qf))):=
 jw (zo (a1.names.getD []) 0) fun v1=>
 jw (f93 (⟨c0_0,c0_1,c0_2,c0_3⟩) v1) fun v3=>
 jw (zo (c0_3.getD []) v3) fun v5=>
 jw (f75 (⟨c0_0,c0_1,c0_2,c0_3⟩) v5) fun v7=>
 cond (decide (v7=0))
  (jw (jhc c0_3 v3) fun v10=>
  some (0,v10))
  (some (v7,c0_3))
theorem j9q {a1:ql}{c0_0:Int}{c0_1:Option (List qj)}{c0_2:Option (List qi)}{c0_3:Option (List qf)}{x1:qn}{x2:qn}{x3:qn}{r}(h:f117 a1 c0_0 c0_1 c0_2 c0_3=some r):zf pr (X pr) 117 [.ptr 0 0,aE a1] [kR c0_0 c0_1 c0_2 c0_3,x1,x2,x3]=some (Iv r.1,false,[kR c0_0 c0_1 c0_2 r.2,x1,x2,x3]):=by
 unfold f117 at h
 rw[zd (show pr.fns 117=some c117 from rfl) (by simp)]
 repeat' first|(replace h:=jx h;obtain⟨d,g,h⟩:=h;with_reducible first|replace g:=W93 g|replace g:=W75 g|replace g:=jfd g|skip)|(replace h:=jz h;rcases h with⟨g,h⟩|⟨g,h⟩)|fail
 all_goals (cases h<;>(simp only[go_sem,seval,c117,zn,*]<;>rfl))
end Go.Z
namespace Go.Z
open Go Go.Abs Go.W
def qib (a0:qc)(a1:ql):Option (Option (Nat)⊕(Nat⊕Nat)):=
 cond (decide (0<(yu a1.kind).length))
  (cond (decide (((zg (yu a1.kind) 0).1:Int)=45))
   (some (.inl (some (0+(zg (yu a1.kind) 0).2))))
   (jw (zo (a1.names.getD []) (0:Int)) fun v43=>
   jw (f202 a0 ((zg (yu a1.kind) 0).1:Int) v43) fun v45=>
   cond v45
    (some (.inl (some (0+(zg (yu a1.kind) 0).2))))
    (some (.inr (.inl (0+(zg (yu a1.kind) 0).2))))))
  (some (.inr (.inr 0)))
def qf9 (a0:qc)(a1:ql)(s0:Nat):Option (Option (Nat)⊕(Nat⊕Nat)):=
 cond (decide (s0<(yu a1.kind).length))
  (cond (decide (((zg (yu a1.kind) s0).1:Int)=45))
   (some (.inl (some (s0+(zg (yu a1.kind) s0).2))))
   (jw (zo (a1.names.getD []) (s0:Int)) fun v36=>
   jw (f202 a0 ((zg (yu a1.kind) s0).1:Int) v36) fun v38=>
   cond v38
    (some (.inl (some (s0+(zg (yu a1.kind) s0).2))))
    (some (.inr (.inl (s0+(zg (yu a1.kind) s0).2))))))
  (some (.inr (.inr s0)))
def qm2 (a0:qc)(a1:ql):Option (Nat)→Option (Option (Nat)⊕(Nat⊕Nat))
 |none=>qib a0 a1
 |some x=>qf9 a0 a1 x
def qky (a0:qc)(a1:ql)(s0:Nat):qg:=⟨[(2,.ptr 0 0,false),(3,.vptr (aE a1),false),(4,.ptr 1 0,false),(6,.vptr (.agg [.str (yu a1.kind),Iv (qdb a1.kind),qf1 a1.kind]),false),(24,.ptr 3 0,false),(41,.bool false,false)],[.cells [(Iv a0.day,false),(sl 5 z7 a0.lots,false),(sl 4 zr a0.products,false),(sl 8 vun a0.units,false)],kZ,.map ya,.iter (yu a1.kind) s0]⟩
def qg2 (a0:qc)(a1:ql):Option (Nat)→qg
 |none=>⟨[(2,.ptr 0 0,false),(3,.vptr (aE a1),false),(4,.ptr 1 0,false),(6,.vptr (.agg [.str (yu a1.kind),Iv (qdb a1.kind),qf1 a1.kind]),false),(24,.ptr 3 0,false)],[.cells [(Iv a0.day,false),(sl 5 z7 a0.lots,false),(sl 4 zr a0.products,false),(sl 8 vun a0.units,false)],kZ,.map ya,.iter (yu a1.kind) 0]⟩
 |some x=>qky a0 a1 x
def qg3 (a0:qc)(a1:ql):Nat⊕Nat→qo×qg
 | .inl d=>(.ret,⟨[(4,.ptr 1 0,false),(5,Iv 10,false)],[.cells [(Iv a0.day,false),(sl 5 z7 a0.lots,false),(sl 4 zr a0.products,false),(sl 8 vun a0.units,false)],kZ,.map ya,.iter (yu a1.kind) d]⟩)
 | .inr d=>(.exit 0,⟨[(2,.ptr 0 0,false),(3,.vptr (aE a1),false),(4,.ptr 1 0,false),(6,.vptr (.agg [.str (yu a1.kind),Iv (qdb a1.kind),qf1 a1.kind]),false),(24,.ptr 3 0,false),(25,.tup [.bool false],false),(26,.bool false,false)],[.cells [(Iv a0.day,false),(sl 5 z7 a0.lots,false),(sl 4 zr a0.products,false),(sl 8 vun a0.units,false)],kZ,.map ya,.iter (yu a1.kind) d]⟩)
theorem jlq (a0:qc)(a1:ql)(r)(h:qib a0 a1=some r):yq pr qf0 (qg2 a0 a1) (qg3 a0 a1) none r:=by
 unfold qib at h
 repeat' first|(replace h:=jx h;obtain⟨d,g,h⟩:=h;with_reducible first|replace g:=jsg g|skip)|(replace h:=jz h;rcases h with⟨g,h⟩|⟨g,h⟩)|fail
 all_goals (cases h<;>(first|(refine zw ?_;simp only[go_sem,seval,qf0,qg2,qky,qiu,zn,qg3,*]<;>rfl)|(refine yl ?_;simp only[go_sem,seval,qf0,qg2,qky,qiu,zn,qg3,*]<;>rfl)))
theorem jk6 (a0:qc)(a1:ql)(s0:Nat)(r)(h:qf9 a0 a1 s0=some r):yq pr qf0 (qg2 a0 a1) (qg3 a0 a1) (some s0) r:=by
 unfold qf9 at h
 repeat' first|(replace h:=jx h;obtain⟨d,g,h⟩:=h;with_reducible first|replace g:=jsg g|skip)|(replace h:=jz h;rcases h with⟨g,h⟩|⟨g,h⟩)|fail
 all_goals (cases h<;>(first|(refine zw ?_;simp only[go_sem,seval,qf0,qg2,qky,qiu,zn,qg3,*]<;>rfl)|(refine yl ?_;simp only[go_sem,seval,qf0,qg2,qky,qiu,zn,qg3,*]<;>rfl)))
theorem jrp (a0:qc)(a1:ql):∀(x:Option (Nat)) (r) (h:qm2 a0 a1 x=some r),yq pr qf0 (qg2 a0 a1) (qg3 a0 a1) x r
 |none,r,h=>jlq a0 a1 r h
 |some x,r,h=>jk6 a0 a1 x r h
theorem jbm (a0:qc)(a1:ql){s0:Option (Nat)}{d}(h:itO (qm2 a0 a1) s0=some d):X pr (.loop qf0) (qg2 a0 a1 s0)=some (qg3 a0 a1 d):=y8 (jrp a0 a1) (fun d=>by rcases d with d|d<;>(intro hh;cases hh)) h
def qbk (k:Nat)(a0:qc)(a1:ql):Option (Int×qc):=
 bif Nat.beq k 105 then jw (f105 a1 a0.day a0.lots a0.products a0.units) fun v=>some (v.1,{ a0 with lots:=v.2.1 })else
 bif Nat.beq k 106 then jw (f106 a1 a0.day a0.lots a0.products a0.units) fun v=>some (v.1,{ a0 with products:=v.2.1 })else
 bif Nat.beq k 107 then jw (f107 a1 a0.day a0.lots a0.products a0.units) fun v=>some (v.1,{ a0 with products:=v.2 })else
 bif Nat.beq k 108 then jw (f108 a1 a0.day a0.lots a0.products a0.units) fun v=>some (v.1,{ a0 with products:=v.2 })else
 bif Nat.beq k 109 then jw (f109 a1 a0.day a0.lots a0.products a0.units) fun v=>some (v.1,{ a0 with products:=v.2 })else
 bif Nat.beq k 110 then jw (f110 a1 a0.day a0.lots a0.products a0.units) fun v=>some (v.1,{ a0 with units:=v.2.1 })else
 bif Nat.beq k 112 then jw (f112 a1 a0.day a0.lots a0.products a0.units) fun v=>some (v.1,{ a0 with units:=v.2 })else
 bif Nat.beq k 113 then jw (f113 a1 a0.day a0.lots a0.products a0.units) fun v=>some (v.1,{ a0 with units:=v.2 })else
 bif Nat.beq k 114 then jw (f114 a1 a0.day a0.lots a0.products a0.units) fun v=>some (v.1,{ a0 with units:=v.2 })else
 bif Nat.beq k 115 then jw (f115 a1 a0.day a0.lots a0.products a0.units) fun v=>some (v.1,{ a0 with lots:=v.2 })else
 bif Nat.beq k 116 then jw (f116 a1 a0.day a0.lots a0.products a0.units) fun v=>some (v.1,{ a0 with lots:=v.2 })else
 bif Nat.beq k 117 then jw (f117 a1 a0.day a0.lots a0.products a0.units) fun v=>some (v.1,{ a0 with units:=v.2 })else
 bif Nat.beq k 118 then jw (f118 a1 a0.day a0.lots a0.products a0.units) fun v=>some (v.1,{ a0 with units:=v.2 })else
 bif Nat.beq k 111 then jw (f111 a1 a0.day a0.lots a0.products a0.units) fun v=>some (v.1,{ a0 with lots:=v.2.1,units:=v.2.2 })else none
theorem jc8 {k:Nat}{a0:qc}{a1:ql}{x1 x2 x3:qn}{v}(h:qbk k a0 a1=some v):
  (∃w1 w2 w3:Bool,zf pr (X pr) k [.ptr 0 0,aE a1] [.cells [(Iv a0.day,false),(sl 5 z7 a0.lots,false),(sl 4 zr a0.products,false),(sl 8 vun a0.units,false)],x1,x2,x3]=some (Iv v.1,false,[.cells [(Iv v.2.day,false),(sl 5 z7 v.2.lots,w1),(sl 4 zr v.2.products,w2),(sl 8 vun v.2.units,w3)],x1,x2,x3])∧v.2.day=a0.day) ∨
  (v.1=0∧v.2.day=a0.day∧∃(n:Nat) (b:qn) (cs:List (qa×Bool)),zf pr (X pr) k [.ptr 0 0,aE a1] [.cells [(Iv a0.day,false),(sl 5 z7 a0.lots,false),(sl 4 zr a0.products,false),(sl 8 vun a0.units,false)],x1,x2,x3]=some (Iv 0,false,[.cells [(Iv v.2.day,false),(sl 5 z7 v.2.lots,false),(sl 4 zr v.2.products,false),(.ms 5 0 n,false)],x1,x2,x3,b,.cells cs])∧cs.map (·.1)=yw vun (v.2.units.getD [])∧n=(v.2.units.getD []).length∧0<n∧v.2.units.isSome=true):=by
 unfold qbk at h
 rw[Bool.cond_eq_ite]at h
 split at h
 ·rename_i hk
  rw[Nat.eq_of_beq_eq_true hk]
  obtain⟨y,hy,h⟩:=jx h
  cases h
  exact .inl ⟨y.2.2,false,false,zcp hy,rfl⟩
 rw[Bool.cond_eq_ite]at h
 split at h
 ·rename_i hk
  rw[Nat.eq_of_beq_eq_true hk]
  obtain⟨y,hy,h⟩:=jx h
  cases h
  exact .inl ⟨false,y.2.2,false,zcc hy,rfl⟩
 rw[Bool.cond_eq_ite]at h
 split at h
 ·rename_i hk
  rw[Nat.eq_of_beq_eq_true hk]
  obtain⟨y,hy,h⟩:=jx h
  cases h
  exact .inl ⟨false,false,false,j9a hy,rfl⟩
 rw[Bool.cond_eq_ite]at h
 split at h
 ·rename_i hk
  rw[Nat.eq_of_beq_eq_true hk]
  obtain⟨y,hy,h⟩:=jx h
  cases h
  exact .inl ⟨false,false,false,zaw hy,rfl⟩
 rw[Bool.cond_eq_ite]at h
 split at h
 ·rename_i hk
  rw[Nat.eq_of_beq_eq_true hk]
  obtain⟨y,hy,h⟩:=jx h
  cases h
  exact .inl ⟨false,false,false,zab hy,rfl⟩
 rw[Bool.cond_eq_ite]at h
 split at h
 ·rename_i hk
  rw[Nat.eq_of_beq_eq_true hk]
  obtain⟨y,hy,h⟩:=jx h
  cases h
  exact .inl ⟨false,false,y.2.2,zdt hy,rfl⟩
 rw[Bool.cond_eq_ite]at h
 split at h
 ·rename_i hk
  rw[Nat.eq_of_beq_eq_true hk]
  obtain⟨y,hy,h⟩:=jx h
  cases h
  exact .inl ⟨false,false,false,zdb hy,rfl⟩
 rw[Bool.cond_eq_ite]at h
 split at h
 ·rename_i hk
  rw[Nat.eq_of_beq_eq_true hk]
  obtain⟨y,hy,h⟩:=jx h
  cases h
  exact .inl ⟨false,false,false,zez hy,rfl⟩
 rw[Bool.cond_eq_ite]at h
 split at h
 ·rename_i hk
  rw[Nat.eq_of_beq_eq_true hk]
  obtain⟨y,hy,h⟩:=jx h
  cases h
  exact .inl ⟨false,false,false,zc4 hy,rfl⟩
 rw[Bool.cond_eq_ite]at h
 split at h
 ·rename_i hk
  rw[Nat.eq_of_beq_eq_true hk]
  obtain⟨y,hy,h⟩:=jx h
  cases h
  exact .inl ⟨false,false,false,zac hy,rfl⟩
 rw[Bool.cond_eq_ite]at h
 split at h
 ·rename_i hk
  rw[Nat.eq_of_beq_eq_true hk]
  obtain⟨y,hy,h⟩:=jx h
  cases h
  exact .inl ⟨false,false,false,zfj hy,rfl⟩
 rw[Bool.cond_eq_ite]at h
 split at h
 ·rename_i hk
  rw[Nat.eq_of_beq_eq_true hk]
  obtain⟨y,hy,h⟩:=jx h
  cases h
  exact .inl ⟨false,false,false,j9q hy,rfl⟩
 rw[Bool.cond_eq_ite]at h
 split at h
 ·rename_i hk
  rw[Nat.eq_of_beq_eq_true hk]
  obtain⟨y,hy,h⟩:=jx h
  cases h
  exact .inl ⟨false,false,false,zfq hy,rfl⟩
 rw[Bool.cond_eq_ite]at h
 split at h
 ·rename_i hk
  rw[Nat.eq_of_beq_eq_true hk]
  obtain⟨y,hy,h⟩:=jx h
  cases h
  rcases j9v (x1:=x1) (x2:=x2) (x3:=x3) hy with⟨h1,h2,h3⟩|⟨h1,n,b,cs,h2,h3,h4,h5⟩
  ·refine .inl ⟨false,false,false,?_,rfl⟩
   rcases y with⟨y1,y2⟩
   cases h2
   exact h3
  ·refine .inr ⟨h1,rfl,n,b,cs,h2,h3,h4,h5,?_⟩
   show y.2.2.isSome=true
   cases hu:y.2.2 with
   |some _=>rfl
   |none=>rw[hu]at h4;simp at h4;omega
 ·cases h
def qxm (x:List UInt8):Nat:=match qee x with
 |some f=>f.2.2.2
 |none=>0
theorem jja (x:List UInt8):qf1 x=fnv (qxm x):=by
 unfold qf1 qxm
 cases qee x<;>rfl
theorem jc6 {k:Nat}{a0:qc}{a1:ql}{v}(h:qbk k a0 a1=some v):fnv k=.fn (.func k) [] []:=by
 cases hk:Nat.beq k 0 with
 |false=>simp only[fnv,hk,cond_false]
 |true=>rw[Nat.eq_of_beq_eq_true hk]at h;cases h
def f121 (a0:qc)(a1:ql):Option (qc×Int):=
 jw (zo (a1.values.getD []) 0) fun v1=>
 cond (decide (v1<a0.day))
  (some (⟨0,none,none,none⟩,20))
  (jw (itO (qm2 a0 a1) none) fun d48=>match d48 with
   | .inl d50=>
    some (⟨0,none,none,none⟩,10)
   | .inr d51=>
    jw (qbk (qxm a1.kind) a0 a1) fun v=>
    cond (decide (v.1=0))
     (some ({ v.2 with day:=v1 },0))
     (some (⟨0,none,none,none⟩,v.1)))
theorem qyv {a0:qc}{a1:ql}{r}(h:f121 a0 a1=some r):jy pr (X pr) 121 [aR a0,aE a1]=some (.tup [aR r.1,Iv r.2],false):=by
 unfold f121 at h
 obtain⟨v1,h2,h⟩:=jx h
 rcases jz h with⟨h3,h⟩|⟨h3,h⟩
 ·have hr:(⟨0,none,none,none⟩,20)=r:=Option.some.inj h
  subst hr
  have this:∃hh,zf pr (X pr) 121 [aR a0,aE a1] []=some (.tup [aZ,Iv 20],false,hh):=by
   rw[zd (show pr.fns 121=some c121 from rfl) (by simp)]
   simp only[go_sem,seval,c121,ke h2,h3]
   exact⟨_,rfl⟩
  obtain⟨hh,this⟩:=this
  exact kq rfl this (by first|rfl|simp only[go_sem,seval]) (by first|rfl|simp only[go_sem,seval])
 ·obtain⟨d48,h49,h⟩:=jx h
  rcases d48 with d50|d51
  ·have wh49:X pr (.loop qf0) ⟨[(2,.ptr 0 0,false),(3,.vptr (aE a1),false),(4,.ptr 1 0,false),(6,.vptr (.agg [.str (yu a1.kind),Iv (qdb a1.kind),qf1 a1.kind]),false),(24,.ptr 3 0,false)],[kR a0.day a0.lots a0.products a0.units,kZ,.map ya,.iter (yu a1.kind) 0]⟩=some (.ret,⟨[(4,.ptr 1 0,false),(5,Iv 10,false)],[kR a0.day a0.lots a0.products a0.units,kZ,.map ya,.iter (yu a1.kind) d50]⟩):=jbm a0 a1 h49
   have hr:(⟨0,none,none,none⟩,10)=r:=Option.some.inj h
   subst hr
   have this:∃hh,zf pr (X pr) 121 [aR a0,aE a1] []=some (.tup [aZ,Iv 10],false,hh):=by
    rw[zd (show pr.fns 121=some c121 from rfl) (by simp)]
    simp only[go_sem,seval,c121,ke h2,h3,qw2,wh49]
    exact⟨_,rfl⟩
   obtain⟨hh,this⟩:=this
   exact kq rfl this (by first|rfl|simp only[go_sem,seval]) (by first|rfl|simp only[go_sem,seval])
  ·have wh49:X pr (.loop qf0) ⟨[(2,.ptr 0 0,false),(3,.vptr (aE a1),false),(4,.ptr 1 0,false),(6,.vptr (.agg [.str (yu a1.kind),Iv (qdb a1.kind),qf1 a1.kind]),false),(24,.ptr 3 0,false)],[kR a0.day a0.lots a0.products a0.units,kZ,.map ya,.iter (yu a1.kind) 0]⟩=some (.exit 0,⟨[(2,.ptr 0 0,false),(3,.vptr (aE a1),false),(4,.ptr 1 0,false),(6,.vptr (.agg [.str (yu a1.kind),Iv (qdb a1.kind),qf1 a1.kind]),false),(24,.ptr 3 0,false),(25,.tup [.bool false],false),(26,.bool false,false)],[kR a0.day a0.lots a0.products a0.units,kZ,.map ya,.iter (yu a1.kind) d51]⟩):=jbm a0 a1 h49
   obtain⟨v,hv,h⟩:=jx h
   have hfn:qf1 a1.kind=.fn (.func (qxm a1.kind)) [] []:=by rw[jja];exact jc6 hv
   simp only[hfn]at wh49
   have af:∀(n:Int) (b:qn),yi 4 (Iv n) [b,kZ,.map ya,.iter (yu a1.kind) d51]=[b,kZ,.map ya,.iter (yu a1.kind) d51]:=fun _ _=>qaa rfl
   rcases jc8 (x1:=kZ) (x2:=.map ya) (x3:=.iter (yu a1.kind) d51) hv with⟨w1,w2,w3,g,hd⟩|⟨h0,hd,n,b,cs,g,g2,hn,hpos,hs⟩
   ·rcases jz h with⟨h5,h⟩|⟨h5,h⟩
    ·cases h
     have this:∃hh,zf pr (X pr) 121 [aR a0,aE a1] []=some (.tup [aG v1 v.2.lots v.2.products v.2.units,Iv 0],false,hh):=by
      rw[zd (show pr.fns 121=some c121 from rfl) (by simp)]
      simp only[go_sem,seval,c121,ke h2,h3,qw2,wh49,hfn,g,af,h5]
      exact⟨_,rfl⟩
     obtain⟨hh,this⟩:=this
     exact kq rfl this (by first|rfl|simp only[go_sem,seval]) (by first|rfl|simp only[go_sem,seval])
    ·cases h
     have this:∃hh,zf pr (X pr) 121 [aR a0,aE a1] []=some (.tup [aZ,Iv v.1],false,hh):=by
      rw[zd (show pr.fns 121=some c121 from rfl) (by simp)]
      simp only[go_sem,seval,c121,ke h2,h3,qw2,wh49,hfn,g,af,h5]
      exact⟨_,rfl⟩
     obtain⟨hh,this⟩:=this
     exact kq rfl this (by first|rfl|simp only[go_sem,seval]) (by first|rfl|simp only[go_sem,seval])
   ·have h5:decide (v.1=0)=true:=dT h0
    rw[h5]at h
    cases h
    have ab:∀(n:Int) (c:qn),yi 4 (Iv n) [c,kZ,.map ya,.iter (yu a1.kind) d51,b,.cells cs]=(bif qcx 4 c&&ki 4 [kZ,.map ya,.iter (yu a1.kind) d51]then [c,kZ,.map ya,.iter (yu a1.kind) d51]else [c,kZ,.map ya,.iter (yu a1.kind) d51,b,.cells cs]):=fun _ _=>rfl
    have this:zf pr (X pr) 121 [aR a0,aE a1] []=some (.tup [.agg [Iv v1,sl 5 z7 v.2.lots,sl 4 zr v.2.products,.ms 5 0 n],Iv 0],false,[.cells [(Iv v1,false),(sl 5 z7 v.2.lots,false),(sl 4 zr v.2.products,false),(.ms 5 0 n,false)],.cells [(Iv v1,false),(sl 5 z7 v.2.lots,false),(sl 4 zr v.2.products,false),(.ms 5 0 n,false)],.map ya,.iter (yu a1.kind) d51,b,.cells cs]):=by
     rw[zd (show pr.fns 121=some c121 from rfl) (by simp)]
     simp only[go_sem,seval,c121,ke h2,h3,qw2,wh49,hfn,g,(show ∀n,below 4 (.ms 5 0 n)=false from fun _=>rfl),Bool.false_and,Bool.and_false,cond_false]<;>rfl
    have fz:qa4 [.cells [(Iv v1,false),(sl 5 z7 v.2.lots,false),(sl 4 zr v.2.products,false),(.ms 5 0 n,false)],.cells [(Iv v1,false),(sl 5 z7 v.2.lots,false),(sl 4 zr v.2.products,false),(.ms 5 0 n,false)],.map ya,.iter (yu a1.kind) d51,b,.cells cs] (.ms 5 0 n)=some (sl 8 vun v.2.units):=by
     have hu:v.2.units=some (v.2.units.getD []):=by cases hq:v.2.units with
      |some _=>rfl
      |none=>rw[hq]at hs;cases hs
     rw[hn]at hpos ⊢
     rw[hu]
     exact qd5 E_un hpos g2
    refine kq rfl this (v':=.tup [aG v1 v.2.lots v.2.products v.2.units,Iv 0]) ?_ (by first|rfl|simp only[go_sem,seval])
    simp only[go_sem,seval,fz]<;>rfl
end Go.Z
end
