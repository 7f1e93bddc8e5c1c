/- Chapter 10. -/
import Derived.Test.YtfopaakmgogpiaaGreatDoorW10
import Derived.Test.YtfopaakmgogpiaaGreatDoorW15
import Derived.Test.YtfopaakmgogpiaaGreatDoorAbsL
import Derived.Test.YtfopaakmgogpiaaGreatDoorCA
set_option linter.unusedVariables false
set_option linter.unusedSimpArgs false
set_option maxRecDepth 100000
set_option maxHeartbeats 4000000
noncomputable section
namespace Go.Z
open Go Go.Abs Go.W
def f117 (a1:ql)(c0_0:Int)(c0_1:Option (List qj))(c0_2:Option (List qk))(c0_3:Option (List qe)):Option (Int×(Option (List qe))):=
 jy (zz (a1.names.getD []) 0) fun v1=>
 jy (f93 (⟨c0_0,c0_1,c0_2,c0_3⟩) v1) fun v3=>
 jy (zz (c0_3.getD []) v3) fun v5=>
 jy (f75 (⟨c0_0,c0_1,c0_2,c0_3⟩) v5) fun v7=>
 cond (decide (v7=0))
  (jy (jdv c0_3 v3) fun v10=>
  some (0,v10))
  (some (v7,c0_3))
theorem j3q {a1:ql}{c0_0:Int}{c0_1:Option (List qj)}{c0_2:Option (List qk)}{c0_3:Option (List qe)}{x1:qr}{x2:qr}{x3:qr}{r}(h:f117 a1 c0_0 c0_1 c0_2 c0_3=some r):zj pr (X pr) 117 [.ptr 0 0,.agg [Iv a1.number,.str a1.kind,sl 1 yc a1.names,sl 1 yb a1.values,.str a1.text]] [.cells [(Iv c0_0,false),(sl 5 zg c0_1,false),(sl 4 za c0_2,false),(sl 8 vun c0_3,false)],x1,x2,x3]=some (Iv r.1,false,[.cells [(Iv c0_0,false),(sl 5 zg c0_1,false),(sl 4 za c0_2,false),(sl 8 vun r.2,false)],x1,x2,x3]):=by
 unfold f117 at h
 obtain⟨v1,h2,h⟩:=jw h
 obtain⟨v3,h4,h⟩:=jw h
 have wh4:=W93 h4
 obtain⟨v5,h6,h⟩:=jw h
 obtain⟨v7,h8,h⟩:=jw h
 have wh8:=W75 h8
 rcases jx h with⟨h9,h⟩|⟨h9,h⟩
 ·obtain⟨v10,h11,h⟩:=jw h
  have wh11:j6 pr (X pr) 189 [sl 8 vun c0_3,Iv v3,.fn (.func 200) [] []]=some (sl 8 vun v10,false):=jc6 h11
  have hr:(0,v10)=r:=Option.some.inj h
  subst hr
  rw[zc (show pr.fns 117=some c117 from rfl) (by simp)]
  simp only[go_sem,seval,c117,jz h2,wh4,jz h6,wh8,h9,wh11]<;>rfl
 have hr:(v7,c0_3)=r:=Option.some.inj h
 subst hr
 rw[zc (show pr.fns 117=some c117 from rfl) (by simp)]
 simp only[go_sem,seval,c117,jz h2,wh4,jz h6,wh8,h9]<;>rfl
end Go.Z
namespace Go.Z
open Go Go.Abs Go.W
def qjl (a0:qc)(a1:ql):Option (Option (Nat)⊕(Nat⊕Nat)):=
 cond (decide (0<(kr a1.kind).length))
  (cond (decide (((zo (kr a1.kind) 0).1:Int)=45))
   (some (.inl (some (0+(zo (kr a1.kind) 0).2))))
   (jy (zz (a1.names.getD []) (0:Int)) fun v43=>
   jy (f202 a0 ((zo (kr a1.kind) 0).1:Int) v43) fun v45=>
   cond v45
    (some (.inl (some (0+(zo (kr a1.kind) 0).2))))
    (some (.inr (.inl (0+(zo (kr a1.kind) 0).2))))))
  (some (.inr (.inr 0)))
def qg7 (a0:qc)(a1:ql)(s0:Nat):Option (Option (Nat)⊕(Nat⊕Nat)):=
 cond (decide (s0<(kr a1.kind).length))
  (cond (decide (((zo (kr a1.kind) s0).1:Int)=45))
   (some (.inl (some (s0+(zo (kr a1.kind) s0).2))))
   (jy (zz (a1.names.getD []) (s0:Int)) fun v36=>
   jy (f202 a0 ((zo (kr a1.kind) s0).1:Int) v36) fun v38=>
   cond v38
    (some (.inl (some (s0+(zo (kr a1.kind) s0).2))))
    (some (.inr (.inl (s0+(zo (kr a1.kind) s0).2))))))
  (some (.inr (.inr s0)))
def qo1 (a0:qc)(a1:ql):Option (Nat)→Option (Option (Nat)⊕(Nat⊕Nat))
 |none=>qjl a0 a1
 |some x=>qg7 a0 a1 x
def qd0 (a0:qc)(a1:ql)(s0:Nat):qg:=⟨[(2,.ptr 0 0,false),(3,.vptr (.agg [Iv a1.number,.str a1.kind,sl 1 yc a1.names,sl 1 yb a1.values,.str a1.text]),false),(4,.ptr 1 0,false),(6,.vptr (.agg [.str (kr a1.kind),Iv (qfx a1.kind),qir a1.kind]),false),(24,.ptr 3 0,false),(41,.bool false,false)],[.cells [(Iv a0.day,false),(sl 5 zg a0.lots,false),(sl 4 za a0.products,false),(sl 8 vun a0.units,false)],.cells [(Iv 0,false),(.list true 0 [],false),(.list true 0 [],false),(.list true 0 [],false)],.map yg,.iter (kr a1.kind) s0]⟩
def qdf (a0:qc)(a1:ql):Option (Nat)→qg
 |none=>⟨[(2,.ptr 0 0,false),(3,.vptr (.agg [Iv a1.number,.str a1.kind,sl 1 yc a1.names,sl 1 yb a1.values,.str a1.text]),false),(4,.ptr 1 0,false),(6,.vptr (.agg [.str (kr a1.kind),Iv (qfx a1.kind),qir a1.kind]),false),(24,.ptr 3 0,false)],[.cells [(Iv a0.day,false),(sl 5 zg a0.lots,false),(sl 4 za a0.products,false),(sl 8 vun a0.units,false)],.cells [(Iv 0,false),(.list true 0 [],false),(.list true 0 [],false),(.list true 0 [],false)],.map yg,.iter (kr a1.kind) 0]⟩
 |some x=>qd0 a0 a1 x
def qf1 (a0:qc)(a1:ql):Nat⊕Nat→qn×qg
 | .inl d=>(.ret,⟨[(4,.ptr 1 0,false),(5,Iv 10,false)],[.cells [(Iv a0.day,false),(sl 5 zg a0.lots,false),(sl 4 za a0.products,false),(sl 8 vun a0.units,false)],.cells [(Iv 0,false),(.list true 0 [],false),(.list true 0 [],false),(.list true 0 [],false)],.map yg,.iter (kr a1.kind) d]⟩)
 | .inr d=>(.exit 0,⟨[(2,.ptr 0 0,false),(3,.vptr (.agg [Iv a1.number,.str a1.kind,sl 1 yc a1.names,sl 1 yb a1.values,.str a1.text]),false),(4,.ptr 1 0,false),(6,.vptr (.agg [.str (kr a1.kind),Iv (qfx a1.kind),qir a1.kind]),false),(24,.ptr 3 0,false),(25,.tup [.bool false],false),(26,.bool false,false)],[.cells [(Iv a0.day,false),(sl 5 zg a0.lots,false),(sl 4 za a0.products,false),(sl 8 vun a0.units,false)],.cells [(Iv 0,false),(.list true 0 [],false),(.list true 0 [],false),(.list true 0 [],false)],.map yg,.iter (kr a1.kind) d]⟩)
theorem jhd (a0:qc)(a1:ql)(r)(h:qjl a0 a1=some r):y6 pr qff (qdf a0 a1) (qf1 a0 a1) none r:=by
 unfold qjl at h
 rcases jx h with⟨h41,h⟩|⟨h41,h⟩
 ·rcases jx h with⟨h42,h⟩|⟨h42,h⟩
  ·cases h
   exact zq (by simp only[go_sem,seval,qff,qdf,qd0,h41,yq h41,h42]<;>rfl)
  obtain⟨v43,h44,h⟩:=jw h
  obtain⟨v45,h46,h⟩:=jw h
  have wh46:=joo h46
  rcases jx h with⟨h47,h⟩|⟨h47,h⟩
  ·cases h
   exact zq (by simp only[go_sem,seval,qff,qdf,qd0,h41,yq h41,h42,jz h44,wh46,h47]<;>rfl)
  cases h
  exact zd (by simp only[go_sem,seval,qff,qdf,qd0,h41,yq h41,h42,jz h44,wh46,h47,qf1]<;>rfl)
 cases h
 exact zd (by simp only[go_sem,seval,qff,qdf,qd0,h41,qwq h41,qf1]<;>rfl)
theorem jg1 (a0:qc)(a1:ql)(s0:Nat)(r)(h:qg7 a0 a1 s0=some r):y6 pr qff (qdf a0 a1) (qf1 a0 a1) (some s0) r:=by
 unfold qg7 at h
 rcases jx h with⟨h34,h⟩|⟨h34,h⟩
 ·rcases jx h with⟨h35,h⟩|⟨h35,h⟩
  ·cases h
   exact zq (by simp only[go_sem,seval,qff,qdf,qd0,h34,yq h34,h35]<;>rfl)
  obtain⟨v36,h37,h⟩:=jw h
  obtain⟨v38,h39,h⟩:=jw h
  have wh39:=joo h39
  rcases jx h with⟨h40,h⟩|⟨h40,h⟩
  ·cases h
   exact zq (by simp only[go_sem,seval,qff,qdf,qd0,h34,yq h34,h35,jz h37,wh39,h40]<;>rfl)
  cases h
  exact zd (by simp only[go_sem,seval,qff,qdf,qd0,h34,yq h34,h35,jz h37,wh39,h40,qf1]<;>rfl)
 cases h
 exact zd (by simp only[go_sem,seval,qff,qdf,qd0,h34,qwq h34,qf1]<;>rfl)
theorem jm9 (a0:qc)(a1:ql):∀(x:Option (Nat)) (r) (h:qo1 a0 a1 x=some r),y6 pr qff (qdf a0 a1) (qf1 a0 a1) x r
 |none,r,h=>jhd a0 a1 r h
 |some x,r,h=>jg1 a0 a1 x r h
theorem jbm (a0:qc)(a1:ql){s0:Option (Nat)}{d}(h:itO (qo1 a0 a1) s0=some d):X pr (.loop qff) (qdf a0 a1 s0)=some (qf1 a0 a1 d):=km (jm9 a0 a1) (fun d=>by rcases d with d|d<;>(intro hh;cases hh)) h
def qb1 (k:Nat)(a0:qc)(a1:ql):Option (Int×qc):=
 bif Nat.beq k 105 then jy (f105 a1 a0.day a0.lots a0.products a0.units) fun v=>some (v.1,{ a0 with lots:=v.2.1 })else
 bif Nat.beq k 106 then jy (f106 a1 a0.day a0.lots a0.products a0.units) fun v=>some (v.1,{ a0 with products:=v.2.1 })else
 bif Nat.beq k 107 then jy (f107 a1 a0.day a0.lots a0.products a0.units) fun v=>some (v.1,{ a0 with products:=v.2 })else
 bif Nat.beq k 108 then jy (f108 a1 a0.day a0.lots a0.products a0.units) fun v=>some (v.1,{ a0 with products:=v.2 })else
 bif Nat.beq k 109 then jy (f109 a1 a0.day a0.lots a0.products a0.units) fun v=>some (v.1,{ a0 with products:=v.2 })else
 bif Nat.beq k 110 then jy (f110 a1 a0.day a0.lots a0.products a0.units) fun v=>some (v.1,{ a0 with units:=v.2.1 })else
 bif Nat.beq k 112 then jy (f112 a1 a0.day a0.lots a0.products a0.units) fun v=>some (v.1,{ a0 with units:=v.2 })else
 bif Nat.beq k 113 then jy (f113 a1 a0.day a0.lots a0.products a0.units) fun v=>some (v.1,{ a0 with units:=v.2 })else
 bif Nat.beq k 114 then jy (f114 a1 a0.day a0.lots a0.products a0.units) fun v=>some (v.1,{ a0 with units:=v.2 })else
 bif Nat.beq k 115 then jy (f115 a1 a0.day a0.lots a0.products a0.units) fun v=>some (v.1,{ a0 with lots:=v.2 })else
 bif Nat.beq k 116 then jy (f116 a1 a0.day a0.lots a0.products a0.units) fun v=>some (v.1,{ a0 with lots:=v.2 })else
 bif Nat.beq k 117 then jy (f117 a1 a0.day a0.lots a0.products a0.units) fun v=>some (v.1,{ a0 with units:=v.2 })else
 bif Nat.beq k 118 then jy (f118 a1 a0.day a0.lots a0.products a0.units) fun v=>some (v.1,{ a0 with units:=v.2 })else
 bif Nat.beq k 111 then jy (f111 a1 a0.day a0.lots a0.products a0.units) fun v=>some (v.1,{ a0 with lots:=v.2.1,units:=v.2.2 })else none
theorem jen {k:Nat}{a0:qc}{a1:ql}{x1 x2 x3:qr}{v}(h:qb1 k a0 a1=some v):
  (∃w1 w2 w3:Bool,zj pr (X pr) k [.ptr 0 0,.agg [Iv a1.number,.str a1.kind,sl 1 yc a1.names,sl 1 yb a1.values,.str a1.text]] [.cells [(Iv a0.day,false),(sl 5 zg a0.lots,false),(sl 4 za a0.products,false),(sl 8 vun a0.units,false)],x1,x2,x3]=some (Iv v.1,false,[.cells [(Iv v.2.day,false),(sl 5 zg v.2.lots,w1),(sl 4 za v.2.products,w2),(sl 8 vun v.2.units,w3)],x1,x2,x3])∧v.2.day=a0.day) ∨
  (v.1=0∧v.2.day=a0.day∧∃(n:Nat) (b:qr) (cs:List (qa×Bool)),zj pr (X pr) k [.ptr 0 0,.agg [Iv a1.number,.str a1.kind,sl 1 yc a1.names,sl 1 yb a1.values,.str a1.text]] [.cells [(Iv a0.day,false),(sl 5 zg a0.lots,false),(sl 4 za a0.products,false),(sl 8 vun a0.units,false)],x1,x2,x3]=some (Iv 0,false,[.cells [(Iv v.2.day,false),(sl 5 zg v.2.lots,false),(sl 4 za v.2.products,false),(.ms 5 0 n,false)],x1,x2,x3,b,.cells cs])∧cs.map (·.1)=kc vun (v.2.units.getD [])∧n=(v.2.units.getD []).length∧0<n∧v.2.units.isSome=true):=by
 unfold qb1 at h
 rw[Bool.cond_eq_ite]at h
 split at h
 ·rename_i hk
  rw[Nat.eq_of_beq_eq_true hk]
  obtain⟨y,hy,h⟩:=jw h
  cases h
  exact .inl ⟨y.2.2,false,false,j7t hy,rfl⟩
 rw[Bool.cond_eq_ite]at h
 split at h
 ·rename_i hk
  rw[Nat.eq_of_beq_eq_true hk]
  obtain⟨y,hy,h⟩:=jw h
  cases h
  exact .inl ⟨false,y.2.2,false,j6r hy,rfl⟩
 rw[Bool.cond_eq_ite]at h
 split at h
 ·rename_i hk
  rw[Nat.eq_of_beq_eq_true hk]
  obtain⟨y,hy,h⟩:=jw h
  cases h
  exact .inl ⟨false,false,false,j2w hy,rfl⟩
 rw[Bool.cond_eq_ite]at h
 split at h
 ·rename_i hk
  rw[Nat.eq_of_beq_eq_true hk]
  obtain⟨y,hy,h⟩:=jw h
  cases h
  exact .inl ⟨false,false,false,j9b hy,rfl⟩
 rw[Bool.cond_eq_ite]at h
 split at h
 ·rename_i hk
  rw[Nat.eq_of_beq_eq_true hk]
  obtain⟨y,hy,h⟩:=jw h
  cases h
  exact .inl ⟨false,false,false,zar hy,rfl⟩
 rw[Bool.cond_eq_ite]at h
 split at h
 ·rename_i hk
  rw[Nat.eq_of_beq_eq_true hk]
  obtain⟨y,hy,h⟩:=jw h
  cases h
  exact .inl ⟨false,false,y.2.2,j26 hy,rfl⟩
 rw[Bool.cond_eq_ite]at h
 split at h
 ·rename_i hk
  rw[Nat.eq_of_beq_eq_true hk]
  obtain⟨y,hy,h⟩:=jw h
  cases h
  exact .inl ⟨false,false,false,zal hy,rfl⟩
 rw[Bool.cond_eq_ite]at h
 split at h
 ·rename_i hk
  rw[Nat.eq_of_beq_eq_true hk]
  obtain⟨y,hy,h⟩:=jw h
  cases h
  exact .inl ⟨false,false,false,za1 hy,rfl⟩
 rw[Bool.cond_eq_ite]at h
 split at h
 ·rename_i hk
  rw[Nat.eq_of_beq_eq_true hk]
  obtain⟨y,hy,h⟩:=jw h
  cases h
  exact .inl ⟨false,false,false,j3m hy,rfl⟩
 rw[Bool.cond_eq_ite]at h
 split at h
 ·rename_i hk
  rw[Nat.eq_of_beq_eq_true hk]
  obtain⟨y,hy,h⟩:=jw h
  cases h
  exact .inl ⟨false,false,false,zbg hy,rfl⟩
 rw[Bool.cond_eq_ite]at h
 split at h
 ·rename_i hk
  rw[Nat.eq_of_beq_eq_true hk]
  obtain⟨y,hy,h⟩:=jw h
  cases h
  exact .inl ⟨false,false,false,j9y hy,rfl⟩
 rw[Bool.cond_eq_ite]at h
 split at h
 ·rename_i hk
  rw[Nat.eq_of_beq_eq_true hk]
  obtain⟨y,hy,h⟩:=jw h
  cases h
  exact .inl ⟨false,false,false,j3q hy,rfl⟩
 rw[Bool.cond_eq_ite]at h
 split at h
 ·rename_i hk
  rw[Nat.eq_of_beq_eq_true hk]
  obtain⟨y,hy,h⟩:=jw h
  cases h
  exact .inl ⟨false,false,false,j74 hy,rfl⟩
 rw[Bool.cond_eq_ite]at h
 split at h
 ·rename_i hk
  rw[Nat.eq_of_beq_eq_true hk]
  obtain⟨y,hy,h⟩:=jw h
  cases h
  rcases j7i (x1:=x1) (x2:=x2) (x3:=x3) hy with⟨h1,h2,h3⟩|⟨h1,n,b,cs,h2,h3,h4,h5⟩
  ·refine .inl ⟨false,false,false,?_,rfl⟩
   rcases y with⟨y1,y2⟩
   cases h2
   exact h3
  refine .inr ⟨h1,rfl,n,b,cs,h2,h3,h4,h5,?_⟩
  show y.2.2.isSome=true
  cases hu:y.2.2 with
  |some _=>rfl
  |none=>rw[hu]at h4;simp at h4;omega
 ·cases h
def qyb (x:List UInt8):Nat:=match qfc x with
 |some f=>f.2.2.2
 |none=>0
theorem jeb (x:List UInt8):qir x=fnv (qyb x):=by
 unfold qir qyb
 cases qfc x<;>rfl
theorem jf2 {k:Nat}{a0:qc}{a1:ql}{v}(h:qb1 k a0 a1=some v):fnv k=.fn (.func k) [] []:=by
 cases hk:Nat.beq k 0 with
 |false=>simp only[fnv,hk,cF]
 |true=>rw[Nat.eq_of_beq_eq_true hk]at h;cases h
def f121 (a0:qc)(a1:ql):Option (qc×Int):=
 jy (zz (a1.values.getD []) 0) fun v1=>
 cond (decide (v1<a0.day))
  (some (⟨0,none,none,none⟩,20))
  (jy (itO (qo1 a0 a1) none) fun d48=>match d48 with
   | .inl d50=>
    some (⟨0,none,none,none⟩,10)
   | .inr d51=>
    jy (qb1 (qyb a1.kind) a0 a1) fun v=>
    cond (decide (v.1=0))
     (some ({ v.2 with day:=v1 },0))
     (some (⟨0,none,none,none⟩,v.1)))
theorem qzn {a0:qc}{a1:ql}{r}(h:f121 a0 a1=some r):j6 pr (X pr) 121 [.agg [Iv a0.day,sl 5 zg a0.lots,sl 4 za a0.products,sl 8 vun a0.units],.agg [Iv a1.number,.str a1.kind,sl 1 yc a1.names,sl 1 yb a1.values,.str a1.text]]=some (.tup [.agg [Iv r.1.day,sl 5 zg r.1.lots,sl 4 za r.1.products,sl 8 vun r.1.units],Iv r.2],false):=by
 unfold f121 at h
 obtain⟨v1,h2,h⟩:=jw h
 rcases jx h with⟨h3,h⟩|⟨h3,h⟩
 ·obtain rfl:=oi h
  refine zk c121 ?_
  simp only[go_sem,seval,c121,jz h2,h3]
  exact⟨_,rfl⟩
 obtain⟨d48,h49,h⟩:=jw h
 rcases d48 with d50|d51
 ·have wh49:=jbm a0 a1 h49
  dsimp only[qdf,qd0,qf1,qd8]at wh49
  obtain rfl:=oi h
  refine zk c121 ?_
  simp only[go_sem,seval,c121,jz h2,h3,qwu,wh49]
  exact⟨_,rfl⟩
 have wh49:=jbm a0 a1 h49
 dsimp only[qdf,qd0,qf1,qd8]at wh49
 obtain⟨v,hv,h⟩:=jw h
 have hfn:qir a1.kind=.fn (.func (qyb a1.kind)) [] []:=by rw[jeb];exact jf2 hv
 simp only[hfn]at wh49
 have af:∀(n:Int) (b:qr),yt 4 (Iv n) [b,.cells [(Iv 0,false),(.list true 0 [],false),(.list true 0 [],false),(.list true 0 [],false)],.map yg,.iter (kr a1.kind) d51]=[b,.cells [(Iv 0,false),(.list true 0 [],false),(.list true 0 [],false),(.list true 0 [],false)],.map yg,.iter (kr a1.kind) d51]:=fun _ _=>qao rfl
 rcases jen (x1:=.cells [(Iv 0,false),(.list true 0 [],false),(.list true 0 [],false),(.list true 0 [],false)]) (x2:=.map yg) (x3:=.iter (kr a1.kind) d51) hv with⟨w1,w2,w3,g,hd⟩|⟨h0,hd,n,b,cs,g,g2,hn,hpos,hs⟩
 ·rcases jx h with⟨h5,h⟩|⟨h5,h⟩
  ·cases h
   refine zk c121 ?_
   simp only[go_sem,seval,c121,jz h2,h3,qwu,wh49,hfn,g,af,h5]
   exact⟨_,rfl⟩
  cases h
  refine zk c121 ?_
  simp only[go_sem,seval,c121,jz h2,h3,qwu,wh49,hfn,g,af,h5]
  exact⟨_,rfl⟩
 have h5:decide (v.1=0)=true:=dT h0
 rw[h5]at h
 cases h
 have ab:∀(n:Int) (c:qr),yt 4 (Iv n) [c,.cells [(Iv 0,false),(.list true 0 [],false),(.list true 0 [],false),(.list true 0 [],false)],.map yg,.iter (kr a1.kind) d51,b,.cells cs]=(bif qdl 4 c&&ky 4 [.cells [(Iv 0,false),(.list true 0 [],false),(.list true 0 [],false),(.list true 0 [],false)],.map yg,.iter (kr a1.kind) d51]then [c,.cells [(Iv 0,false),(.list true 0 [],false),(.list true 0 [],false),(.list true 0 [],false)],.map yg,.iter (kr a1.kind) d51]else [c,.cells [(Iv 0,false),(.list true 0 [],false),(.list true 0 [],false),(.list true 0 [],false)],.map yg,.iter (kr a1.kind) d51,b,.cells cs]):=fun _ _=>rfl
 have this:zj pr (X pr) 121 [.agg [Iv a0.day,sl 5 zg a0.lots,sl 4 za a0.products,sl 8 vun a0.units],.agg [Iv a1.number,.str a1.kind,sl 1 yc a1.names,sl 1 yb a1.values,.str a1.text]] []=some (.tup [.agg [Iv v1,sl 5 zg v.2.lots,sl 4 za v.2.products,.ms 5 0 n],Iv 0],false,[.cells [(Iv v1,false),(sl 5 zg v.2.lots,false),(sl 4 za v.2.products,false),(.ms 5 0 n,false)],.cells [(Iv v1,false),(sl 5 zg v.2.lots,false),(sl 4 za v.2.products,false),(.ms 5 0 n,false)],.map yg,.iter (kr a1.kind) d51,b,.cells cs]):=by
  rw[zc (show pr.fns 121=some c121 from rfl) (by simp)]
  simp only[go_sem,seval,c121,jz h2,h3,qwu,wh49,hfn,g,(show ∀n,below 4 (.ms 5 0 n)=false from fun _=>rfl),Bool.false_and,Bool.and_false,cF]<;>rfl
 have fz:qbd [.cells [(Iv v1,false),(sl 5 zg v.2.lots,false),(sl 4 za v.2.products,false),(.ms 5 0 n,false)],.cells [(Iv v1,false),(sl 5 zg v.2.lots,false),(sl 4 za v.2.products,false),(.ms 5 0 n,false)],.map yg,.iter (kr a1.kind) d51,b,.cells cs] (.ms 5 0 n)=some (sl 8 vun v.2.units):=by
  have hu:v.2.units=some (v.2.units.getD []):=by cases hq:v.2.units with
   |some _=>rfl
   |none=>rw[hq]at hs;cases hs
  rw[hn]at hpos ⊢
  rw[hu]
  exact qew E_un hpos g2
 refine qbj rfl this (v':=.tup [.agg [Iv v1,sl 5 zg v.2.lots,sl 4 za v.2.products,sl 8 vun v.2.units],Iv 0]) ?_ (by first|rfl|simp only[go_sem,seval])
 simp only[go_sem,seval,fz]<;>rfl
end Go.Z
end
