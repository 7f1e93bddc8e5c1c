/- Chapter 10. -/
import Derived.Test.YtfopaakmgogpiaaGreatDoorW1
import Derived.Test.YtfopaakmgogpiaaGreatDoorAbsL
set_option linter.unusedVariables false
set_option linter.unusedSimpArgs false
set_option maxRecDepth 100000
set_option maxHeartbeats 4000000
noncomputable section
namespace Go.Z
open Go Go.Abs Go.W
def f131 (a0:Int)(a1:qc)(a2:List UInt8):Option Bool:=
 jy (zz (a1.lots.getD []) a0) fun v1=>
 some (decide (v1.name=a2))
theorem j96 (hp:zb){a0:Int}{a1:qc}{a2:List UInt8}{r}(h:f131 a0 a1 a2=some r):zj pr (X pr) 131 [Iv a0,.vptr (.agg [Iv a1.day,sl 5 zg a1.lots,sl 4 za a1.products,sl 8 vun a1.units]),.vptr (.str a2)] hp=some (.bool r,false,hp):=by
 unfold f131 at h
 obtain⟨v1,h2,h⟩:=jw h
 have hr:decide (v1.name=a2)=r:=Option.some.inj h
 subst hr
 rw[zc (show pr.fns 131=some c131 from rfl) (by simp)]
 simp only[go_sem,seval,c131,jz h2]<;>rfl
def qox (a0:Int)(a1c0:qc)(a1c1:List UInt8)(s0:Int):Option (Int⊕(Int⊕Int)):=
 cond (decide (s0<a0))
  (jy (f131 s0 a1c0 a1c1) fun v10=>
  cond v10
   (some (.inr (.inl s0)))
   (some (.inl (j8 .i64 (s0+1)))))
  (some (.inr (.inr s0)))
def qh6 (a0:Int)(a1c0:qc)(a1c1:List UInt8)(s0:Int):qg:=⟨[(1,.fn (.func 131) [] [.vptr (.agg [Iv a1c0.day,sl 5 zg a1c0.lots,sl 4 za a1c0.products,sl 8 vun a1c0.units]),.vptr (.str a1c1)],false),(5,Iv (-1),false),(7,Iv a0,false),(8,Iv s0,false)],[]⟩
def qjr (a0:Int)(a1c0:qc)(a1c1:List UInt8):Int⊕Int→qn×qg
 | .inl d=>(.exit 0,⟨[(5,Iv d,false)],[]⟩)
 | .inr d=>(.exit 0,⟨[(1,.fn (.func 131) [] [.vptr (.agg [Iv a1c0.day,sl 5 zg a1c0.lots,sl 4 za a1c0.products,sl 8 vun a1c0.units]),.vptr (.str a1c1)],false),(5,Iv (-1),false),(7,Iv a0,false),(8,Iv d,false),(9,.bool false,false)],[]⟩)
theorem jjc (a0:Int)(a1c0:qc)(a1c1:List UInt8)(s0:Int)(r)(h:qox a0 a1c0 a1c1 s0=some r):y6 pr qdr (qh6 a0 a1c0 a1c1) (qjr a0 a1c0 a1c1) s0 r:=by
 unfold qox at h
 rcases jx h with⟨h9,h⟩|⟨h9,h⟩
 ·obtain⟨v10,h11,h⟩:=jw h
  have wh11:zj pr (X pr) 131 [Iv s0,.vptr (.agg [Iv a1c0.day,sl 5 zg a1c0.lots,sl 4 za a1c0.products,sl 8 vun a1c0.units]),.vptr (.str a1c1)] []=some (.bool v10,false,[]):=j96 [] h11
  rcases jx h with⟨h12,h⟩|⟨h12,h⟩
  ·cases h
   exact zd (by simp only[go_sem,seval,qdr,qh6,h9,wh11,h12,qjr]<;>rfl)
  cases h
  exact zq (by simp only[go_sem,seval,qdr,qh6,h9,wh11,h12]<;>rfl)
 cases h
 exact zd (by simp only[go_sem,seval,qdr,qh6,h9,qjr]<;>rfl)
theorem q6f (a0:Int)(a1c0:qc)(a1c1:List UInt8){s0:Int}{d}(h:itO (qox a0 a1c0 a1c1) s0=some d):X pr (.loop qdr) (qh6 a0 a1c0 a1c1 s0)=some (qjr a0 a1c0 a1c1 d):=km (jjc a0 a1c0 a1c1) (fun d=>by rcases d with d|d<;>(intro hh;cases hh)) h
def qyf (a0:Int)(a1c0:qc)(a1c1:List UInt8):Option Int:=
 jy (itO (qox a0 a1c0 a1c1) 0) fun d13=>match d13 with
  | .inl d15=>
   some d15
  | .inr d16=>
   some (-1)
theorem jys {a0:Int}{a1c0:qc}{a1c1:List UInt8}{r}(h:qyf a0 a1c0 a1c1=some r):j6 pr (X pr) 130 [Iv a0,.fn (.func 131) [] [.vptr (.agg [Iv a1c0.day,sl 5 zg a1c0.lots,sl 4 za a1c0.products,sl 8 vun a1c0.units]),.vptr (.str a1c1)]]=some (Iv r,false):=by
 unfold qyf at h
 obtain⟨d13,h14,h⟩:=jw h
 rcases d13 with d15|d16
 ·have wh14:=q6f a0 a1c0 a1c1 h14
  dsimp only[qh6,qjr]at wh14
  obtain rfl:=oi h
  refine zk c130 ?_
  simp only[go_sem,seval,c130,wh14]
  exact⟨_,rfl⟩
 have wh14:=q6f a0 a1c0 a1c1 h14
 dsimp only[qh6,qjr]at wh14
 obtain rfl:=oi h
 refine zk c130 ?_
 simp only[go_sem,seval,c130,wh14]
 exact⟨_,rfl⟩
def f72 (a0:qc)(a1:List UInt8):Option Int:=
 jy (qyf ((a0.lots.getD []).length:Int) a0 a1) fun v1=>
 some v1
theorem W72 {a0:qc}{a1:List UInt8}{r}(h:f72 a0 a1=some r):j6 pr (X pr) 72 [.agg [Iv a0.day,sl 5 zg a0.lots,sl 4 za a0.products,sl 8 vun a0.units],.str a1]=some (Iv r,false):=by
 unfold f72 at h
 obtain⟨v1,h2,h⟩:=jw h
 have wh2:j6 pr (X pr) 130 [Lv a0.lots,.fn (.func 131) [] [.vptr (.agg [Iv a0.day,sl 5 zg a0.lots,sl 4 za a0.products,sl 8 vun a0.units]),.vptr (.str a1)]]=some (Iv v1,false):=jys h2
 obtain rfl:=oi h
 refine zk c72 ?_
 simp only[go_sem,seval,c72,wh2]
 exact⟨_,rfl⟩
def f233 (a0:Int)(a1:qc)(a2:List UInt8):Option Bool:=
 jy (zz (a1.products.getD []) a0) fun v1=>
 some (decide (v1.name=a2))
theorem j8o (hp:zb){a0:Int}{a1:qc}{a2:List UInt8}{r}(h:f233 a0 a1 a2=some r):zj pr (X pr) 233 [Iv a0,.vptr (.agg [Iv a1.day,sl 5 zg a1.lots,sl 4 za a1.products,sl 8 vun a1.units]),.vptr (.str a2)] hp=some (.bool r,false,hp):=by
 unfold f233 at h
 obtain⟨v1,h2,h⟩:=jw h
 have hr:decide (v1.name=a2)=r:=Option.some.inj h
 subst hr
 rw[zc (show pr.fns 233=some c233 from rfl) (by simp)]
 simp only[go_sem,seval,c233,jz h2]<;>rfl
def qoq (a0:Int)(a1c0:qc)(a1c1:List UInt8)(s0:Int):Option (Int⊕(Int⊕Int)):=
 cond (decide (s0<a0))
  (jy (f233 s0 a1c0 a1c1) fun v10=>
  cond v10
   (some (.inr (.inl s0)))
   (some (.inl (j8 .i64 (s0+1)))))
  (some (.inr (.inr s0)))
def qh0 (a0:Int)(a1c0:qc)(a1c1:List UInt8)(s0:Int):qg:=⟨[(1,.fn (.func 233) [] [.vptr (.agg [Iv a1c0.day,sl 5 zg a1c0.lots,sl 4 za a1c0.products,sl 8 vun a1c0.units]),.vptr (.str a1c1)],false),(5,Iv (-1),false),(7,Iv a0,false),(8,Iv s0,false)],[]⟩
def qj1 (a0:Int)(a1c0:qc)(a1c1:List UInt8):Int⊕Int→qn×qg
 | .inl d=>(.exit 0,⟨[(5,Iv d,false)],[]⟩)
 | .inr d=>(.exit 0,⟨[(1,.fn (.func 233) [] [.vptr (.agg [Iv a1c0.day,sl 5 zg a1c0.lots,sl 4 za a1c0.products,sl 8 vun a1c0.units]),.vptr (.str a1c1)],false),(5,Iv (-1),false),(7,Iv a0,false),(8,Iv d,false),(9,.bool false,false)],[]⟩)
theorem jim (a0:Int)(a1c0:qc)(a1c1:List UInt8)(s0:Int)(r)(h:qoq a0 a1c0 a1c1 s0=some r):y6 pr qdr (qh0 a0 a1c0 a1c1) (qj1 a0 a1c0 a1c1) s0 r:=by
 unfold qoq at h
 rcases jx h with⟨h9,h⟩|⟨h9,h⟩
 ·obtain⟨v10,h11,h⟩:=jw h
  have wh11:zj pr (X pr) 233 [Iv s0,.vptr (.agg [Iv a1c0.day,sl 5 zg a1c0.lots,sl 4 za a1c0.products,sl 8 vun a1c0.units]),.vptr (.str a1c1)] []=some (.bool v10,false,[]):=j8o [] h11
  rcases jx h with⟨h12,h⟩|⟨h12,h⟩
  ·cases h
   exact zd (by simp only[go_sem,seval,qdr,qh0,h9,wh11,h12,qj1]<;>rfl)
  cases h
  exact zq (by simp only[go_sem,seval,qdr,qh0,h9,wh11,h12]<;>rfl)
 cases h
 exact zd (by simp only[go_sem,seval,qdr,qh0,h9,qj1]<;>rfl)
theorem q50 (a0:Int)(a1c0:qc)(a1c1:List UInt8){s0:Int}{d}(h:itO (qoq a0 a1c0 a1c1) s0=some d):X pr (.loop qdr) (qh0 a0 a1c0 a1c1 s0)=some (qj1 a0 a1c0 a1c1 d):=km (jim a0 a1c0 a1c1) (fun d=>by rcases d with d|d<;>(intro hh;cases hh)) h
def qw2 (a0:Int)(a1c0:qc)(a1c1:List UInt8):Option Int:=
 jy (itO (qoq a0 a1c0 a1c1) 0) fun d13=>match d13 with
  | .inl d15=>
   some d15
  | .inr d16=>
   some (-1)
theorem jyk {a0:Int}{a1c0:qc}{a1c1:List UInt8}{r}(h:qw2 a0 a1c0 a1c1=some r):j6 pr (X pr) 130 [Iv a0,.fn (.func 233) [] [.vptr (.agg [Iv a1c0.day,sl 5 zg a1c0.lots,sl 4 za a1c0.products,sl 8 vun a1c0.units]),.vptr (.str a1c1)]]=some (Iv r,false):=by
 unfold qw2 at h
 obtain⟨d13,h14,h⟩:=jw h
 rcases d13 with d15|d16
 ·have wh14:=q50 a0 a1c0 a1c1 h14
  dsimp only[qh0,qj1]at wh14
  obtain rfl:=oi h
  refine zk c130 ?_
  simp only[go_sem,seval,c130,wh14]
  exact⟨_,rfl⟩
 have wh14:=q50 a0 a1c0 a1c1 h14
 dsimp only[qh0,qj1]at wh14
 obtain rfl:=oi h
 refine zk c130 ?_
 simp only[go_sem,seval,c130,wh14]
 exact⟨_,rfl⟩
def f165 (a0:qc)(a1:List UInt8):Option Int:=
 jy (qw2 ((a0.products.getD []).length:Int) a0 a1) fun v1=>
 some v1
theorem qn4 {a0:qc}{a1:List UInt8}{r}(h:f165 a0 a1=some r):j6 pr (X pr) 165 [.agg [Iv a0.day,sl 5 zg a0.lots,sl 4 za a0.products,sl 8 vun a0.units],.str a1]=some (Iv r,false):=by
 unfold f165 at h
 obtain⟨v1,h2,h⟩:=jw h
 have wh2:j6 pr (X pr) 130 [Lv a0.products,.fn (.func 233) [] [.vptr (.agg [Iv a0.day,sl 5 zg a0.lots,sl 4 za a0.products,sl 8 vun a0.units]),.vptr (.str a1)]]=some (Iv v1,false):=jyk h2
 obtain rfl:=oi h
 refine zk c165 ?_
 simp only[go_sem,seval,c165,wh2]
 exact⟨_,rfl⟩
def f148 (a0:Int)(a1:qc)(a2:List UInt8):Option Bool:=
 jy (zz (a1.units.getD []) a0) fun v1=>
 some (decide (v1.name=a2))
theorem j3a (hp:zb){a0:Int}{a1:qc}{a2:List UInt8}{r}(h:f148 a0 a1 a2=some r):zj pr (X pr) 148 [Iv a0,.vptr (.agg [Iv a1.day,sl 5 zg a1.lots,sl 4 za a1.products,sl 8 vun a1.units]),.vptr (.str a2)] hp=some (.bool r,false,hp):=by
 unfold f148 at h
 obtain⟨v1,h2,h⟩:=jw h
 have hr:decide (v1.name=a2)=r:=Option.some.inj h
 subst hr
 rw[zc (show pr.fns 148=some c148 from rfl) (by simp)]
 simp only[go_sem,seval,c148,jz h2]<;>rfl
def qpz (a0:Int)(a1c0:qc)(a1c1:List UInt8)(s0:Int):Option (Int⊕(Int⊕Int)):=
 cond (decide (s0<a0))
  (jy (f148 s0 a1c0 a1c1) fun v10=>
  cond v10
   (some (.inr (.inl s0)))
   (some (.inl (j8 .i64 (s0+1)))))
  (some (.inr (.inr s0)))
def qhv (a0:Int)(a1c0:qc)(a1c1:List UInt8)(s0:Int):qg:=⟨[(1,.fn (.func 148) [] [.vptr (.agg [Iv a1c0.day,sl 5 zg a1c0.lots,sl 4 za a1c0.products,sl 8 vun a1c0.units]),.vptr (.str a1c1)],false),(5,Iv (-1),false),(7,Iv a0,false),(8,Iv s0,false)],[]⟩
def qjz (a0:Int)(a1c0:qc)(a1c1:List UInt8):Int⊕Int→qn×qg
 | .inl d=>(.exit 0,⟨[(5,Iv d,false)],[]⟩)
 | .inr d=>(.exit 0,⟨[(1,.fn (.func 148) [] [.vptr (.agg [Iv a1c0.day,sl 5 zg a1c0.lots,sl 4 za a1c0.products,sl 8 vun a1c0.units]),.vptr (.str a1c1)],false),(5,Iv (-1),false),(7,Iv a0,false),(8,Iv d,false),(9,.bool false,false)],[]⟩)
theorem jjd (a0:Int)(a1c0:qc)(a1c1:List UInt8)(s0:Int)(r)(h:qpz a0 a1c0 a1c1 s0=some r):y6 pr qdr (qhv a0 a1c0 a1c1) (qjz a0 a1c0 a1c1) s0 r:=by
 unfold qpz at h
 rcases jx h with⟨h9,h⟩|⟨h9,h⟩
 ·obtain⟨v10,h11,h⟩:=jw h
  have wh11:zj pr (X pr) 148 [Iv s0,.vptr (.agg [Iv a1c0.day,sl 5 zg a1c0.lots,sl 4 za a1c0.products,sl 8 vun a1c0.units]),.vptr (.str a1c1)] []=some (.bool v10,false,[]):=j3a [] h11
  rcases jx h with⟨h12,h⟩|⟨h12,h⟩
  ·cases h
   exact zd (by simp only[go_sem,seval,qdr,qhv,h9,wh11,h12,qjz]<;>rfl)
  cases h
  exact zq (by simp only[go_sem,seval,qdr,qhv,h9,wh11,h12]<;>rfl)
 cases h
 exact zd (by simp only[go_sem,seval,qdr,qhv,h9,qjz]<;>rfl)
theorem q6i (a0:Int)(a1c0:qc)(a1c1:List UInt8){s0:Int}{d}(h:itO (qpz a0 a1c0 a1c1) s0=some d):X pr (.loop qdr) (qhv a0 a1c0 a1c1 s0)=some (qjz a0 a1c0 a1c1 d):=km (jjd a0 a1c0 a1c1) (fun d=>by rcases d with d|d<;>(intro hh;cases hh)) h
def qx0 (a0:Int)(a1c0:qc)(a1c1:List UInt8):Option Int:=
 jy (itO (qpz a0 a1c0 a1c1) 0) fun d13=>match d13 with
  | .inl d15=>
   some d15
  | .inr d16=>
   some (-1)
theorem jvx {a0:Int}{a1c0:qc}{a1c1:List UInt8}{r}(h:qx0 a0 a1c0 a1c1=some r):j6 pr (X pr) 130 [Iv a0,.fn (.func 148) [] [.vptr (.agg [Iv a1c0.day,sl 5 zg a1c0.lots,sl 4 za a1c0.products,sl 8 vun a1c0.units]),.vptr (.str a1c1)]]=some (Iv r,false):=by
 unfold qx0 at h
 obtain⟨d13,h14,h⟩:=jw h
 rcases d13 with d15|d16
 ·have wh14:=q6i a0 a1c0 a1c1 h14
  dsimp only[qhv,qjz]at wh14
  obtain rfl:=oi h
  refine zk c130 ?_
  simp only[go_sem,seval,c130,wh14]
  exact⟨_,rfl⟩
 have wh14:=q6i a0 a1c0 a1c1 h14
 dsimp only[qhv,qjz]at wh14
 obtain rfl:=oi h
 refine zk c130 ?_
 simp only[go_sem,seval,c130,wh14]
 exact⟨_,rfl⟩
def f93 (a0:qc)(a1:List UInt8):Option Int:=
 jy (qx0 ((a0.units.getD []).length:Int) a0 a1) fun v1=>
 some v1
theorem W93 {a0:qc}{a1:List UInt8}{r}(h:f93 a0 a1=some r):j6 pr (X pr) 93 [.agg [Iv a0.day,sl 5 zg a0.lots,sl 4 za a0.products,sl 8 vun a0.units],.str a1]=some (Iv r,false):=by
 unfold f93 at h
 obtain⟨v1,h2,h⟩:=jw h
 have wh2:j6 pr (X pr) 130 [Lv a0.units,.fn (.func 148) [] [.vptr (.agg [Iv a0.day,sl 5 zg a0.lots,sl 4 za a0.products,sl 8 vun a0.units]),.vptr (.str a1)]]=some (Iv v1,false):=jvx h2
 obtain rfl:=oi h
 refine zk c93 ?_
 simp only[go_sem,seval,c93,wh2]
 exact⟨_,rfl⟩
def f202 (a0:qc)(a1:Int)(a2:List UInt8):Option Bool:=
 cond (decide (a1=108))
  (jy (f72 a0 a2) fun v2=>
  some (decide (0≤v2)))
  (cond (decide (a1=112))
   (jy (f165 a0 a2) fun v5=>
   some (decide (0≤v5)))
   (cond (decide (a1=117))
    (jy (f93 a0 a2) fun v8=>
    some (decide (0≤v8)))
    (some true)))
theorem joo {a0:qc}{a1:Int}{a2:List UInt8}{r}(h:f202 a0 a1 a2=some r):j6 pr (X pr) 202 [.agg [Iv a0.day,sl 5 zg a0.lots,sl 4 za a0.products,sl 8 vun a0.units],.int .i32 a1,.str a2]=some (.bool r,false):=by
 unfold f202 at h
 rcases jx h with⟨h1,h⟩|⟨h1,h⟩
 ·obtain⟨v2,h3,h⟩:=jw h
  have wh3:=W72 h3
  obtain rfl:=oi h
  refine zk c202 ?_
  simp only[go_sem,seval,c202,h1,wh3]
  exact⟨_,rfl⟩
 rcases jx h with⟨h4,h⟩|⟨h4,h⟩
 ·obtain⟨v5,h6,h⟩:=jw h
  have wh6:=qn4 h6
  obtain rfl:=oi h
  refine zk c202 ?_
  simp only[go_sem,seval,c202,h1,h4,wh6]
  exact⟨_,rfl⟩
 rcases jx h with⟨h7,h⟩|⟨h7,h⟩
 ·obtain⟨v8,h9,h⟩:=jw h
  have wh9:=W93 h9
  obtain rfl:=oi h
  refine zk c202 ?_
  simp only[go_sem,seval,c202,h1,h4,h7,wh9]
  exact⟨_,rfl⟩
 obtain rfl:=oi h
 refine zk c202 ?_
 simp only[go_sem,seval,c202,h1,h4,h7]
 exact⟨_,rfl⟩
def f182 (a0:qk):Option Int:=
 some ((a0.docs.getD []).length:Int)
theorem jop {a0:qk}{r}(h:f182 a0=some r):j6 pr (X pr) 182 [.agg [.str a0.name,sl 2 vsi a0.dn,sl 3 zp a0.dt,sl 2 qbi a0.docs]]=some (Iv r,false):=by
 unfold f182 at h
 obtain rfl:=oi h
 refine zk c182 ?_
 simp only[go_sem,seval,c182]
 exact⟨_,rfl⟩
def f140 (a0:qc)(a1:qe):Option Int:=
 jy (f165 a0 a1.product) fun v1=>
 jy (zz (a0.products.getD []) v1) fun v3=>
 jy (f182 v3) fun v5=>
 some v5
theorem jj9 {a0:qc}{a1:qe}{r}(h:f140 a0 a1=some r):j6 pr (X pr) 140 [.agg [Iv a0.day,sl 5 zg a0.lots,sl 4 za a0.products,sl 8 vun a0.units],.agg [.str a1.name,.str a1.product,Iv a1.version,sl 2 vsi a1.uses,sl 3 zp a1.results,.str a1.partner,.bool a1.shipped,Iv a1.complaints]]=some (Iv r,false):=by
 unfold f140 at h
 obtain⟨v1,h2,h⟩:=jw h
 have wh2:=qn4 h2
 obtain⟨v3,h4,h⟩:=jw h
 obtain⟨v5,h6,h⟩:=jw h
 have wh6:=jop h6
 obtain rfl:=oi h
 refine zk c140 ?_
 simp only[go_sem,seval,c140,wh2,jz h4,wh6]
 exact⟨_,rfl⟩
def f134 (a0:qc)(a1:qe):Option qq:=
 jy (f165 a0 a1.product) fun v1=>
 jy (zz (a0.products.getD []) v1) fun v3=>
 jy (zz (v3.docs.getD []) (j8 .i64 (a1.version-1))) fun v5=>
 some v5
theorem q7c {a0:qc}{a1:qe}{r}(h:f134 a0 a1=some r):j6 pr (X pr) 134 [.agg [Iv a0.day,sl 5 zg a0.lots,sl 4 za a0.products,sl 8 vun a0.units],.agg [.str a1.name,.str a1.product,Iv a1.version,sl 2 vsi a1.uses,sl 3 zp a1.results,.str a1.partner,.bool a1.shipped,Iv a1.complaints]]=some (.agg [sl 2 vsi r.needs,sl 3 zp r.tests],false):=by
 unfold f134 at h
 obtain⟨v1,h2,h⟩:=jw h
 have wh2:=qn4 h2
 obtain⟨v3,h4,h⟩:=jw h
 obtain⟨v5,h6,h⟩:=jw h
 obtain rfl:=oi h
 refine zk c134 ?_
 simp only[go_sem,seval,c134,wh2,jz h4,jz h6]
 exact⟨_,rfl⟩
def qms (a0:qe)(a1:qi)(s0:Int×(List UInt8)×Int×Int):Option ((Int×(List UInt8)×Int×Int)⊕((Int×(List UInt8)×Int×Int))):=
 cond (decide (s0.1<((a0.results.getD []).length:Int)))
  (jy (zz (a0.results.getD []) s0.1) fun v12=>
  cond (decide (v12.k=a1.k))
   (cond (decide (v12.a=a0.version))
    (some (.inl (j8 .i64 (s0.1+1),v12.k,v12.a,v12.b)))
    (some (.inl (j8 .i64 (s0.1+1),s0.2.1,s0.2.2.1,s0.2.2.2))))
   (some (.inl (j8 .i64 (s0.1+1),s0.2.1,s0.2.2.1,s0.2.2.2))))
  (some (.inr (s0.1,s0.2.1,s0.2.2.1,s0.2.2.2)))
def qj2 (a0:qe)(a1:qi)(s0:Int×(List UInt8)×Int×Int):qg:=⟨[(2,.vptr (.agg [.str a0.name,.str a0.product,Iv a0.version,sl 2 vsi a0.uses,sl 3 zp a0.results,.str a0.partner,.bool a0.shipped,Iv a0.complaints]),false),(3,.vptr (.agg [.str a1.k,Iv a1.a,Iv a1.b]),false),(5,.ptr 0 0,false),(10,sl 3 zp a0.results,false),(11,Lv a0.results,false),(12,Iv s0.1,false)],[.cells [(.str s0.2.1,false),(Iv s0.2.2.1,false),(Iv s0.2.2.2,false)]]⟩
def qs8 (a0:qe)(a1:qi)(d:(Int×(List UInt8)×Int×Int)):qn×qg:=(.exit 0,⟨[(2,.vptr (.agg [.str a0.name,.str a0.product,Iv a0.version,sl 2 vsi a0.uses,sl 3 zp a0.results,.str a0.partner,.bool a0.shipped,Iv a0.complaints]),false),(3,.vptr (.agg [.str a1.k,Iv a1.a,Iv a1.b]),false),(5,.ptr 0 0,false),(10,sl 3 zp a0.results,false),(11,Lv a0.results,false),(12,Iv d.1,false),(13,.bool false,false)],[.cells [(.str d.2.1,false),(Iv d.2.2.1,false),(Iv d.2.2.2,false)]]⟩)
theorem jnz (a0:qe)(a1:qi)(s0:Int×(List UInt8)×Int×Int)(r)(h:qms a0 a1 s0=some r):y6 pr ql9 (qj2 a0 a1) (qs8 a0 a1) s0 r:=by
 unfold qms at h
 rcases jx h with⟨h11,h⟩|⟨h11,h⟩
 ·obtain⟨v12,h13,h⟩:=jw h
  rcases jx h with⟨h14,h⟩|⟨h14,h⟩
  ·rcases jx h with⟨h15,h⟩|⟨h15,h⟩
   ·cases h
    exact zq (by simp only[go_sem,seval,ql9,qj2,h11,jz h13,h14,h15]<;>rfl)
   cases h
   exact zq (by simp only[go_sem,seval,ql9,qj2,h11,jz h13,h14,h15]<;>rfl)
  cases h
  exact zq (by simp only[go_sem,seval,ql9,qj2,h11,jz h13,h14]<;>rfl)
 cases h
 exact zd (by simp only[go_sem,seval,ql9,qj2,h11,qs8]<;>rfl)
theorem jm6 (a0:qe)(a1:qi){s0:Int×(List UInt8)×Int×Int}{d}(h:itO (qms a0 a1) s0=some d):X pr (.loop ql9) (qj2 a0 a1 s0)=some (qs8 a0 a1 d):=km (jnz a0 a1) (fun d hh=>by cases hh) h
def f136 (a0:qe)(a1:qi):Option Bool:=
 jy (itO (qms a0 a1) (0,[],(-1),0)) fun d16=>
 cond (decide (d16.2.1=[])&&decide (d16.2.2.1=(-1))&&decide (d16.2.2.2=0))
  (some false)
  (cond (decide (a1.a≤d16.2.2.2))
   (some (decide (d16.2.2.2≤a1.b)))
   (some false))
theorem j35 {a0:qe}{a1:qi}{r}(h:f136 a0 a1=some r):j6 pr (X pr) 136 [.agg [.str a0.name,.str a0.product,Iv a0.version,sl 2 vsi a0.uses,sl 3 zp a0.results,.str a0.partner,.bool a0.shipped,Iv a0.complaints],.agg [.str a1.k,Iv a1.a,Iv a1.b]]=some (.bool r,false):=by
 unfold f136 at h
 obtain⟨d16,h17,h⟩:=jw h
 have wh17:=jm6 a0 a1 h17
 dsimp only[qj2,qs8]at wh17
 rcases jx h with⟨h18,h⟩|⟨h18,h⟩
 ·obtain rfl:=oi h
  refine zk c136 ?_
  simp only[go_sem,seval,c136,wh17,h18]
  exact⟨_,rfl⟩
 rcases jx h with⟨h19,h⟩|⟨h19,h⟩
 ·obtain rfl:=oi h
  refine zk c136 ?_
  simp only[go_sem,seval,c136,wh17,h18,h19]
  exact⟨_,rfl⟩
 obtain rfl:=oi h
 refine zk c136 ?_
 simp only[go_sem,seval,c136,wh17,h18,h19]
 exact⟨_,rfl⟩
def f135 (a0:qi)(a1:qe):Option Bool:=
 jy (f136 a1 a0) fun v1=>
 some (!v1)
theorem j3h (hp:zb){a0:qi}{a1:qe}{r}(h:f135 a0 a1=some r):zj pr (X pr) 135 [.agg [.str a0.k,Iv a0.a,Iv a0.b],.vptr (.agg [.str a1.name,.str a1.product,Iv a1.version,sl 2 vsi a1.uses,sl 3 zp a1.results,.str a1.partner,.bool a1.shipped,Iv a1.complaints])] hp=some (.bool r,false,hp):=by
 unfold f135 at h
 obtain⟨v1,h2,h⟩:=jw h
 have wh2:=j35 h2
 have hr:(!v1)=r:=Option.some.inj h
 subst hr
 rw[zc (show pr.fns 135=some c135 from rfl) (by simp)]
 simp only[go_sem,seval,c135,wh2]<;>rfl
def qr9 (a0:Option (List qi))(a1c0:qe)(s0:(Option (List qi))×Int×Bool):Option (((Option (List qi))×Int×Bool)⊕(((Option (List qi))×Bool×Int))):=
 cond (decide (s0.2.1<((a0.getD []).length:Int)))
  (jy (zz (a0.getD []) s0.2.1) fun v20=>
  jy (f135 v20 a1c0) fun v22=>
  cond v22
   (cond s0.2.2
    (jy (apO s0.1 [v20]) fun v26=>
    some (.inl (v26,j8 .i64 (s0.2.1+1),true)))
    (cond s0.1.isNone
     (jy (apO s0.1 [v20]) fun v29=>
     some (.inl (v29,j8 .i64 (s0.2.1+1),true)))
     (none)))
   (some (.inl (s0.1,j8 .i64 (s0.2.1+1),s0.2.2))))
  (some (.inr (s0.1,s0.2.2,s0.2.1)))
def qjk (a0:Option (List qi))(a1c0:qe)(s0:(Option (List qi))×Int×Bool):qg:=⟨[(1,.fn (.func 135) [] [.vptr (.agg [.str a1c0.name,.str a1c0.product,Iv a1c0.version,sl 2 vsi a1c0.uses,sl 3 zp a1c0.results,.str a1c0.partner,.bool a1c0.shipped,Iv a1c0.complaints])],false),(5,sl 3 zp s0.1,s0.2.2),(8,sl 3 zp a0,false),(9,Lv a0,false),(10,Iv s0.2.1,false)],[]⟩
def qur (a0:Option (List qi))(a1c0:qe)(d:((Option (List qi))×Bool×Int)):qn×qg:=(.exit 0,⟨[(1,.fn (.func 135) [] [.vptr (.agg [.str a1c0.name,.str a1c0.product,Iv a1c0.version,sl 2 vsi a1c0.uses,sl 3 zp a1c0.results,.str a1c0.partner,.bool a1c0.shipped,Iv a1c0.complaints])],false),(5,sl 3 zp d.1,d.2.1),(8,sl 3 zp a0,false),(9,Lv a0,false),(10,Iv d.2.2,false),(11,.bool false,false)],[]⟩)
theorem jlt (a0:Option (List qi))(a1c0:qe)(s0:(Option (List qi))×Int×Bool)(r)(h:qr9 a0 a1c0 s0=some r):y6 pr qne (qjk a0 a1c0) (qur a0 a1c0) s0 r:=by
 unfold qr9 at h
 rcases jx h with⟨h19,h⟩|⟨h19,h⟩
 ·obtain⟨v20,h21,h⟩:=jw h
  obtain⟨v22,h23,h⟩:=jw h
  have wh23:zj pr (X pr) 135 [.agg [.str v20.k,Iv v20.a,Iv v20.b],.vptr (.agg [.str a1c0.name,.str a1c0.product,Iv a1c0.version,sl 2 vsi a1c0.uses,sl 3 zp a1c0.results,.str a1c0.partner,.bool a1c0.shipped,Iv a1c0.complaints])] []=some (.bool v22,false,[]):=j3h [] h23
  rcases jx h with⟨h24,h⟩|⟨h24,h⟩
  ·rcases jx h with⟨h25,h⟩|⟨h25,h⟩
   ·obtain⟨v26,h27,h⟩:=jw h
    cases h
    exact zq (by simp only[go_sem,seval,qne,qjk,h19,jz h21,wh23,h24,h25,qdv h27]<;>rfl)
   rcases jx h with⟨h28,h⟩|⟨h28,h⟩
   ·obtain⟨v29,h30,h⟩:=jw h
    cases h
    exact zq (by simp only[go_sem,seval,qne,qjk,h19,jz h21,wh23,h24,h25,h28,qee h30 h28]<;>rfl)
   cases h
  cases h
  exact zq (by simp only[go_sem,seval,qne,qjk,h19,jz h21,wh23,h24]<;>rfl)
 cases h
 exact zd (by simp only[go_sem,seval,qne,qjk,h19,qur]<;>rfl)
theorem jn2 (a0:Option (List qi))(a1c0:qe){s0:(Option (List qi))×Int×Bool}{d}(h:itO (qr9 a0 a1c0) s0=some d):X pr (.loop qne) (qjk a0 a1c0 s0)=some (qur a0 a1c0 d):=km (jlt a0 a1c0) (fun d hh=>by cases hh) h
def f133 (a0:Option (List qi))(a1c0:qe):Option ((Option (List qi))×Bool):=
 jy (itO (qr9 a0 a1c0) (none,0,false)) fun d31=>
 some (d31.1,d31.2.1)
theorem j6u {a0:Option (List qi)}{a1c0:qe}{r}(h:f133 a0 a1c0=some r):j6 pr (X pr) 133 [sl 3 zp a0,.fn (.func 135) [] [.vptr (.agg [.str a1c0.name,.str a1c0.product,Iv a1c0.version,sl 2 vsi a1c0.uses,sl 3 zp a1c0.results,.str a1c0.partner,.bool a1c0.shipped,Iv a1c0.complaints])]]=some (sl 3 zp r.1,r.2):=by
 unfold f133 at h
 obtain⟨d31,h32,h⟩:=jw h
 have wh32:=jn2 a0 a1c0 h32
 dsimp only[qjk,qur,qd8]at wh32
 obtain rfl:=oi h
 refine ki c133 ?_
 simp only[go_sem,seval,c133,wh32]
 exact⟨_,rfl⟩
def f138 (a0:qi):Option (List UInt8):=
 some a0.k
theorem j94 (hp:zb){a0:qi}{r}(h:f138 a0=some r):zj pr (X pr) 138 [.agg [.str a0.k,Iv a0.a,Iv a0.b]] hp=some (.str r,false,hp):=by
 unfold f138 at h
 have hr:a0.k=r:=Option.some.inj h
 subst hr
 rw[zc (show pr.fns 138=some c138 from rfl) (by simp)]
 simp only[go_sem,seval,c138]<;>rfl
def qso (a0:Option (List qi))(s0:(Option (List (List UInt8)))×Int×Bool):Option (((Option (List (List UInt8)))×Int×Bool)⊕(((Option (List (List UInt8)))×Bool×Int))):=
 cond (decide (s0.2.1<((a0.getD []).length:Int)))
  (jy (zz (a0.getD []) s0.2.1) fun v18=>
  jy (f138 v18) fun v20=>
  cond s0.2.2
   (jy (apO s0.1 [v20]) fun v23=>
   some (.inl (v23,j8 .i64 (s0.2.1+1),true)))
   (cond s0.1.isNone
    (jy (apO s0.1 [v20]) fun v26=>
    some (.inl (v26,j8 .i64 (s0.2.1+1),true)))
    (none)))
  (some (.inr (s0.1,s0.2.2,s0.2.1)))
def qlq (a0:Option (List qi))(s0:(Option (List (List UInt8)))×Int×Bool):qg:=⟨[(1,.fn (.func 138) [] [],false),(5,sl 1 yc s0.1,s0.2.2),(8,sl 3 zp a0,false),(9,Lv a0,false),(10,Iv s0.2.1,false)],[]⟩
def qt1 (a0:Option (List qi))(d:((Option (List (List UInt8)))×Bool×Int)):qn×qg:=(.exit 0,⟨[(1,.fn (.func 138) [] [],false),(5,sl 1 yc d.1,d.2.1),(8,sl 3 zp a0,false),(9,Lv a0,false),(10,Iv d.2.2,false),(11,.bool false,false)],[]⟩)
theorem jow (a0:Option (List qi))(s0:(Option (List (List UInt8)))×Int×Bool)(r)(h:qso a0 s0=some r):y6 pr qo4 (qlq a0) (qt1 a0) s0 r:=by
 unfold qso at h
 rcases jx h with⟨h17,h⟩|⟨h17,h⟩
 ·obtain⟨v18,h19,h⟩:=jw h
  obtain⟨v20,h21,h⟩:=jw h
  have wh21:zj pr (X pr) 138 [.agg [.str v18.k,Iv v18.a,Iv v18.b]] []=some (.str v20,false,[]):=j94 [] h21
  rcases jx h with⟨h22,h⟩|⟨h22,h⟩
  ·obtain⟨v23,h24,h⟩:=jw h
   cases h
   exact zq (by simp only[go_sem,seval,qo4,qlq,h17,jz h19,wh21,h22,qw4 h24]<;>rfl)
  rcases jx h with⟨h25,h⟩|⟨h25,h⟩
  ·obtain⟨v26,h27,h⟩:=jw h
   cases h
   exact zq (by simp only[go_sem,seval,qo4,qlq,h17,jz h19,wh21,h22,h25,qxb h27 h25]<;>rfl)
  cases h
 cases h
 exact zd (by simp only[go_sem,seval,qo4,qlq,h17,qt1]<;>rfl)
theorem jkv (a0:Option (List qi)){s0:(Option (List (List UInt8)))×Int×Bool}{d}(h:itO (qso a0) s0=some d):X pr (.loop qo4) (qlq a0 s0)=some (qt1 a0 d):=km (jow a0) (fun d hh=>by cases hh) h
def f137 (a0:Option (List qi)):Option ((Option (List (List UInt8)))×Bool):=
 jy (itO (qso a0) (none,0,false)) fun d28=>
 some (d28.1,d28.2.1)
theorem zbh {a0:Option (List qi)}{r}(h:f137 a0=some r):j6 pr (X pr) 137 [sl 3 zp a0,.fn (.func 138) [] []]=some (sl 1 yc r.1,r.2):=by
 unfold f137 at h
 obtain⟨d28,h29,h⟩:=jw h
 have wh29:=jkv a0 h29
 dsimp only[qlq,qt1,qd8]at wh29
 obtain rfl:=oi h
 refine ki c137 ?_
 simp only[go_sem,seval,c137,wh29]
 exact⟨_,rfl⟩
def f74 (a0:qc)(a1:qe):Option ((Option (List (List UInt8)))×Bool):=
 jy (f134 a0 a1) fun v1=>
 jy (f133 v1.tests a1) fun v3=>
 jy (f137 v3.1) fun v5=>
 some (v5.1,v5.2)
theorem W74 {a0:qc}{a1:qe}{r}(h:f74 a0 a1=some r):j6 pr (X pr) 74 [.agg [Iv a0.day,sl 5 zg a0.lots,sl 4 za a0.products,sl 8 vun a0.units],.agg [.str a1.name,.str a1.product,Iv a1.version,sl 2 vsi a1.uses,sl 3 zp a1.results,.str a1.partner,.bool a1.shipped,Iv a1.complaints]]=some (sl 1 yc r.1,r.2):=by
 unfold f74 at h
 obtain⟨v1,h2,h⟩:=jw h
 have wh2:=q7c h2
 obtain⟨v3,h4,h⟩:=jw h
 have wh4:j6 pr (X pr) 133 [sl 3 zp v1.tests,.fn (.func 135) [] [.vptr (.agg [.str a1.name,.str a1.product,Iv a1.version,sl 2 vsi a1.uses,sl 3 zp a1.results,.str a1.partner,.bool a1.shipped,Iv a1.complaints])]]=some (sl 3 zp v3.1,v3.2):=j6u h4
 obtain⟨v5,h6,h⟩:=jw h
 have wh6:j6 pr (X pr) 137 [sl 3 zp v3.1,.fn (.func 138) [] []]=some (sl 1 yc v5.1,v5.2):=zbh h6
 obtain rfl:=oi h
 refine ki c74 ?_
 simp only[go_sem,seval,c74,wh2,wh4,wh6]
 exact⟨_,rfl⟩
end Go.Z
namespace Go.Z
open Go Go.Abs Go.W
def f232 (a0:Option (List qj)):Option ((Option (List qj))×Bool):=
 cond a0.isNone
  (some (none,false))
  (jy (apO (some []) (a0.getD [])) fun v2=>
  some (v2,true))
theorem jn6 {a0:Option (List qj)}{r}(h:f232 a0=some r):j6 pr (X pr) 232 [sl 5 zg a0]=some (sl 5 zg r.1,r.2):=by
 unfold f232 at h
 rcases jx h with⟨h1,h⟩|⟨h1,h⟩
 ·obtain rfl:=oi h
  refine ki c232 ?_
  simp only[go_sem,seval,c232,h1]
  exact⟨_,rfl⟩
 obtain⟨v2,h3,h⟩:=jw h
 obtain rfl:=oi h
 refine ki c232 ?_
 simp only[go_sem,seval,c232,h1,qa9 h3]
 exact⟨_,rfl⟩
def f234 (a0:Option (List qk)):Option ((Option (List qk))×Bool):=
 cond a0.isNone
  (some (none,false))
  (jy (apO (some []) (a0.getD [])) fun v2=>
  some (v2,true))
theorem jki {a0:Option (List qk)}{r}(h:f234 a0=some r):j6 pr (X pr) 234 [sl 4 za a0]=some (sl 4 za r.1,r.2):=by
 unfold f234 at h
 rcases jx h with⟨h1,h⟩|⟨h1,h⟩
 ·obtain rfl:=oi h
  refine ki c234 ?_
  simp only[go_sem,seval,c234,h1]
  exact⟨_,rfl⟩
 obtain⟨v2,h3,h⟩:=jw h
 obtain rfl:=oi h
 refine ki c234 ?_
 simp only[go_sem,seval,c234,h1,qa9 h3]
 exact⟨_,rfl⟩
def f247 (a0:Option (List qe)):Option ((Option (List qe))×Bool):=
 cond a0.isNone
  (some (none,false))
  (jy (apO (some []) (a0.getD [])) fun v2=>
  some (v2,true))
theorem jm5 {a0:Option (List qe)}{r}(h:f247 a0=some r):j6 pr (X pr) 247 [sl 8 vun a0]=some (sl 8 vun r.1,r.2):=by
 unfold f247 at h
 rcases jx h with⟨h1,h⟩|⟨h1,h⟩
 ·obtain rfl:=oi h
  refine ki c247 ?_
  simp only[go_sem,seval,c247,h1]
  exact⟨_,rfl⟩
 obtain⟨v2,h3,h⟩:=jw h
 obtain rfl:=oi h
 refine ki c247 ?_
 simp only[go_sem,seval,c247,h1,qa9 h3]
 exact⟨_,rfl⟩
def f244 (a0:Option (List qq)):Option ((Option (List qq))×Bool):=
 cond a0.isNone
  (some (none,false))
  (jy (apO (some []) (a0.getD [])) fun v2=>
  some (v2,true))
theorem jmt {a0:Option (List qq)}{r}(h:f244 a0=some r):j6 pr (X pr) 244 [sl 2 qbi a0]=some (sl 2 qbi r.1,r.2):=by
 unfold f244 at h
 rcases jx h with⟨h1,h⟩|⟨h1,h⟩
 ·obtain rfl:=oi h
  refine ki c244 ?_
  simp only[go_sem,seval,c244,h1]
  exact⟨_,rfl⟩
 obtain⟨v2,h3,h⟩:=jw h
 obtain rfl:=oi h
 refine ki c244 ?_
 simp only[go_sem,seval,c244,h1,qa9 h3]
 exact⟨_,rfl⟩
def f245 (a0:Option (List qm)):Option ((Option (List qm))×Bool):=
 cond a0.isNone
  (some (none,false))
  (jy (apO (some []) (a0.getD [])) fun v2=>
  some (v2,true))
theorem jdj {a0:Option (List qm)}{r}(h:f245 a0=some r):j6 pr (X pr) 245 [sl 2 vsi a0]=some (sl 2 vsi r.1,r.2):=by
 unfold f245 at h
 rcases jx h with⟨h1,h⟩|⟨h1,h⟩
 ·obtain rfl:=oi h
  refine ki c245 ?_
  simp only[go_sem,seval,c245,h1]
  exact⟨_,rfl⟩
 obtain⟨v2,h3,h⟩:=jw h
 obtain rfl:=oi h
 refine ki c245 ?_
 simp only[go_sem,seval,c245,h1,qa9 h3]
 exact⟨_,rfl⟩
def f246 (a0:Option (List qi)):Option ((Option (List qi))×Bool):=
 cond a0.isNone
  (some (none,false))
  (jy (apO (some []) (a0.getD [])) fun v2=>
  some (v2,true))
theorem jev {a0:Option (List qi)}{r}(h:f246 a0=some r):j6 pr (X pr) 246 [sl 3 zp a0]=some (sl 3 zp r.1,r.2):=by
 unfold f246 at h
 rcases jx h with⟨h1,h⟩|⟨h1,h⟩
 ·obtain rfl:=oi h
  refine ki c246 ?_
  simp only[go_sem,seval,c246,h1]
  exact⟨_,rfl⟩
 obtain⟨v2,h3,h⟩:=jw h
 obtain rfl:=oi h
 refine ki c246 ?_
 simp only[go_sem,seval,c246,h1,qa9 h3]
 exact⟨_,rfl⟩
def f251 (a0:Option (List qi)):Option ((Option (List qi))×Bool):=
 cond a0.isNone
  (some (none,false))
  (jy (apO (some []) (a0.getD [])) fun v2=>
  some (v2,true))
theorem jkj {a0:Option (List qi)}{r}(h:f251 a0=some r):j6 pr (X pr) 251 [sl 3 zp a0]=some (sl 3 zp r.1,r.2):=by
 unfold f251 at h
 rcases jx h with⟨h1,h⟩|⟨h1,h⟩
 ·obtain rfl:=oi h
  refine ki c251 ?_
  simp only[go_sem,seval,c251,h1]
  exact⟨_,rfl⟩
 obtain⟨v2,h3,h⟩:=jw h
 obtain rfl:=oi h
 refine ki c251 ?_
 simp only[go_sem,seval,c251,h1,qa9 h3]
 exact⟨_,rfl⟩
def f269 (a0:Option (List qm)):Option ((Option (List qm))×Bool):=
 cond a0.isNone
  (some (none,false))
  (jy (apO (some []) (a0.getD [])) fun v2=>
  some (v2,true))
theorem jkt {a0:Option (List qm)}{r}(h:f269 a0=some r):j6 pr (X pr) 269 [sl 2 vsi a0]=some (sl 2 vsi r.1,r.2):=by
 unfold f269 at h
 rcases jx h with⟨h1,h⟩|⟨h1,h⟩
 ·obtain rfl:=oi h
  refine ki c269 ?_
  simp only[go_sem,seval,c269,h1]
  exact⟨_,rfl⟩
 obtain⟨v2,h3,h⟩:=jw h
 obtain rfl:=oi h
 refine ki c269 ?_
 simp only[go_sem,seval,c269,h1,qa9 h3]
 exact⟨_,rfl⟩
def f164 (a0:Option (List qj))(a1:qj):Option (Option (List qj)):=
 jy (f232 a0) fun v1=>
 cond v1.2
  (jy (apO v1.1 [a1]) fun v4=>
  some v4)
  (cond v1.1.isNone
   (jy (apO v1.1 [a1]) fun v7=>
   some v7)
   (none))
theorem j5z {a0:Option (List qj)}{a1:qj}{r}(h:f164 a0 a1=some r):j6 pr (X pr) 164 [sl 5 zg a0,.agg [.str a1.name,.str a1.kind,Iv a1.count,Iv a1.left,.bool a1.held]]=some (sl 5 zg r,true):=by
 unfold f164 at h
 obtain⟨v1,h2,h⟩:=jw h
 rcases jx h with⟨h3,h⟩|⟨h3,h⟩
 ·obtain⟨v4,h5,h⟩:=jw h
  obtain rfl:=oi h
  refine ki c164 ?_
  simp only[go_sem,seval,c164,jn6 h2,h3,qih h5]
  exact⟨_,rfl⟩
 rcases jx h with⟨h6,h⟩|⟨h6,h⟩
 ·obtain⟨v7,h8,h⟩:=jw h
  obtain rfl:=oi h
  refine ki c164 ?_
  simp only[go_sem,seval,c164,jn6 h2,h3,h6,qlh h8 h6]
  exact⟨_,rfl⟩
 cases h
def f166 (a0:Option (List qk))(a1:qk):Option (Option (List qk)):=
 jy (f234 a0) fun v1=>
 cond v1.2
  (jy (apO v1.1 [a1]) fun v4=>
  some v4)
  (cond v1.1.isNone
   (jy (apO v1.1 [a1]) fun v7=>
   some v7)
   (none))
theorem j93 {a0:Option (List qk)}{a1:qk}{r}(h:f166 a0 a1=some r):j6 pr (X pr) 166 [sl 4 za a0,.agg [.str a1.name,sl 2 vsi a1.dn,sl 3 zp a1.dt,sl 2 qbi a1.docs]]=some (sl 4 za r,true):=by
 unfold f166 at h
 obtain⟨v1,h2,h⟩:=jw h
 rcases jx h with⟨h3,h⟩|⟨h3,h⟩
 ·obtain⟨v4,h5,h⟩:=jw h
  obtain rfl:=oi h
  refine ki c166 ?_
  simp only[go_sem,seval,c166,jki h2,h3,qob h5]
  exact⟨_,rfl⟩
 rcases jx h with⟨h6,h⟩|⟨h6,h⟩
 ·obtain⟨v7,h8,h⟩:=jw h
  obtain rfl:=oi h
  refine ki c166 ?_
  simp only[go_sem,seval,c166,jki h2,h3,h6,qu5 h8 h6]
  exact⟨_,rfl⟩
 cases h
def f183 (a0:Option (List qe))(a1:qe):Option (Option (List qe)):=
 jy (f247 a0) fun v1=>
 cond v1.2
  (jy (apO v1.1 [a1]) fun v4=>
  some v4)
  (cond v1.1.isNone
   (jy (apO v1.1 [a1]) fun v7=>
   some v7)
   (none))
theorem j72 {a0:Option (List qe)}{a1:qe}{r}(h:f183 a0 a1=some r):j6 pr (X pr) 183 [sl 8 vun a0,.agg [.str a1.name,.str a1.product,Iv a1.version,sl 2 vsi a1.uses,sl 3 zp a1.results,.str a1.partner,.bool a1.shipped,Iv a1.complaints]]=some (sl 8 vun r,true):=by
 unfold f183 at h
 obtain⟨v1,h2,h⟩:=jw h
 rcases jx h with⟨h3,h⟩|⟨h3,h⟩
 ·obtain⟨v4,h5,h⟩:=jw h
  obtain rfl:=oi h
  refine ki c183 ?_
  simp only[go_sem,seval,c183,jm5 h2,h3,qss h5]
  exact⟨_,rfl⟩
 rcases jx h with⟨h6,h⟩|⟨h6,h⟩
 ·obtain⟨v7,h8,h⟩:=jw h
  obtain rfl:=oi h
  refine ki c183 ?_
  simp only[go_sem,seval,c183,jm5 h2,h3,h6,qz4 h8 h6]
  exact⟨_,rfl⟩
 cases h
def f180 (a0:Option (List qq))(a1:qq):Option (Option (List qq)):=
 jy (f244 a0) fun v1=>
 cond v1.2
  (jy (apO v1.1 [a1]) fun v4=>
  some v4)
  (cond v1.1.isNone
   (jy (apO v1.1 [a1]) fun v7=>
   some v7)
   (none))
theorem j7a {a0:Option (List qq)}{a1:qq}{r}(h:f180 a0 a1=some r):j6 pr (X pr) 180 [sl 2 qbi a0,.agg [sl 2 vsi a1.needs,sl 3 zp a1.tests]]=some (sl 2 qbi r,true):=by
 unfold f180 at h
 obtain⟨v1,h2,h⟩:=jw h
 rcases jx h with⟨h3,h⟩|⟨h3,h⟩
 ·obtain⟨v4,h5,h⟩:=jw h
  obtain rfl:=oi h
  refine ki c180 ?_
  simp only[go_sem,seval,c180,jmt h2,h3,qq4 h5]
  exact⟨_,rfl⟩
 rcases jx h with⟨h6,h⟩|⟨h6,h⟩
 ·obtain⟨v7,h8,h⟩:=jw h
  obtain rfl:=oi h
  refine ki c180 ?_
  simp only[go_sem,seval,c180,jmt h2,h3,h6,qxw h8 h6]
  exact⟨_,rfl⟩
 cases h
def f239 (a0:Option (List qm))(a1:qm):Option (Option (List qm)):=
 jy (f245 a0) fun v1=>
 cond v1.2
  (jy (apO v1.1 [a1]) fun v4=>
  some v4)
  (cond v1.1.isNone
   (jy (apO v1.1 [a1]) fun v7=>
   some v7)
   (none))
theorem j8b {a0:Option (List qm)}{a1:qm}{r}(h:f239 a0 a1=some r):j6 pr (X pr) 239 [sl 2 vsi a0,.agg [.str a1.k,Iv a1.n]]=some (sl 2 vsi r,true):=by
 unfold f239 at h
 obtain⟨v1,h2,h⟩:=jw h
 rcases jx h with⟨h3,h⟩|⟨h3,h⟩
 ·obtain⟨v4,h5,h⟩:=jw h
  obtain rfl:=oi h
  refine ki c239 ?_
  simp only[go_sem,seval,c239,jdj h2,h3,qc5 h5]
  exact⟨_,rfl⟩
 rcases jx h with⟨h6,h⟩|⟨h6,h⟩
 ·obtain⟨v7,h8,h⟩:=jw h
  obtain rfl:=oi h
  refine ki c239 ?_
  simp only[go_sem,seval,c239,jdj h2,h3,h6,qc4 h8 h6]
  exact⟨_,rfl⟩
 cases h
def f243 (a0:Option (List qi))(a1:qi):Option (Option (List qi)):=
 jy (f246 a0) fun v1=>
 cond v1.2
  (jy (apO v1.1 [a1]) fun v4=>
  some v4)
  (cond v1.1.isNone
   (jy (apO v1.1 [a1]) fun v7=>
   some v7)
   (none))
theorem j8x {a0:Option (List qi)}{a1:qi}{r}(h:f243 a0 a1=some r):j6 pr (X pr) 243 [sl 3 zp a0,.agg [.str a1.k,Iv a1.a,Iv a1.b]]=some (sl 3 zp r,true):=by
 unfold f243 at h
 obtain⟨v1,h2,h⟩:=jw h
 rcases jx h with⟨h3,h⟩|⟨h3,h⟩
 ·obtain⟨v4,h5,h⟩:=jw h
  obtain rfl:=oi h
  refine ki c243 ?_
  simp only[go_sem,seval,c243,jev h2,h3,qdv h5]
  exact⟨_,rfl⟩
 rcases jx h with⟨h6,h⟩|⟨h6,h⟩
 ·obtain⟨v7,h8,h⟩:=jw h
  obtain rfl:=oi h
  refine ki c243 ?_
  simp only[go_sem,seval,c243,jev h2,h3,h6,qee h8 h6]
  exact⟨_,rfl⟩
 cases h
def f250 (a0:Option (List qm))(a1:qm):Option (Option (List qm)):=
 jy (f269 a0) fun v1=>
 cond v1.2
  (jy (apO v1.1 [a1]) fun v4=>
  some v4)
  (cond v1.1.isNone
   (jy (apO v1.1 [a1]) fun v7=>
   some v7)
   (none))
theorem j4k {a0:Option (List qm)}{a1:qm}{r}(h:f250 a0 a1=some r):j6 pr (X pr) 250 [sl 2 vsi a0,.agg [.str a1.k,Iv a1.n]]=some (sl 2 vsi r,true):=by
 unfold f250 at h
 obtain⟨v1,h2,h⟩:=jw h
 rcases jx h with⟨h3,h⟩|⟨h3,h⟩
 ·obtain⟨v4,h5,h⟩:=jw h
  obtain rfl:=oi h
  refine ki c250 ?_
  simp only[go_sem,seval,c250,jkt h2,h3,qc5 h5]
  exact⟨_,rfl⟩
 rcases jx h with⟨h6,h⟩|⟨h6,h⟩
 ·obtain⟨v7,h8,h⟩:=jw h
  obtain rfl:=oi h
  refine ki c250 ?_
  simp only[go_sem,seval,c250,jkt h2,h3,h6,qc4 h8 h6]
  exact⟨_,rfl⟩
 cases h
def f194 (a0:Option (List qi))(a1:qi):Option (Option (List qi)):=
 jy (f251 a0) fun v1=>
 cond v1.2
  (jy (apO v1.1 [a1]) fun v4=>
  some v4)
  (cond v1.1.isNone
   (jy (apO v1.1 [a1]) fun v7=>
   some v7)
   (none))
theorem j3v {a0:Option (List qi)}{a1:qi}{r}(h:f194 a0 a1=some r):j6 pr (X pr) 194 [sl 3 zp a0,.agg [.str a1.k,Iv a1.a,Iv a1.b]]=some (sl 3 zp r,true):=by
 unfold f194 at h
 obtain⟨v1,h2,h⟩:=jw h
 rcases jx h with⟨h3,h⟩|⟨h3,h⟩
 ·obtain⟨v4,h5,h⟩:=jw h
  obtain rfl:=oi h
  refine ki c194 ?_
  simp only[go_sem,seval,c194,jkj h2,h3,qdv h5]
  exact⟨_,rfl⟩
 rcases jx h with⟨h6,h⟩|⟨h6,h⟩
 ·obtain⟨v7,h8,h⟩:=jw h
  obtain rfl:=oi h
  refine ki c194 ?_
  simp only[go_sem,seval,c194,jkj h2,h3,h6,qee h8 h6]
  exact⟨_,rfl⟩
 cases h
def f181 (a0:qq):Option qq:=
 jy (f245 a0.needs) fun v1=>
 jy (f246 a0.tests) fun v3=>
 some (⟨v1.1,v3.1⟩)
theorem j46 {a0:qq}{r}(h:f181 a0=some r):j6 pr (X pr) 181 [.agg [sl 2 vsi a0.needs,sl 3 zp a0.tests]]=some (.agg [sl 2 vsi r.needs,sl 3 zp r.tests],false):=by
 unfold f181 at h
 obtain⟨v1,h2,h⟩:=jw h
 have wh2:=jdj h2
 obtain⟨v3,h4,h⟩:=jw h
 have wh4:=jev h4
 obtain rfl:=oi h
 refine zk c181 ?_
 simp only[go_sem,seval,c181,wh2,wh4]
 exact⟨_,rfl⟩
end Go.Z
end
