/- Chapter 10. -/
import Derived.Test.YtfopaakmgogpiaaGreatDoorW1
import Derived.Test.YtfopaakmgogpiaaGreatDoorAbsL
set_option linter.unusedVariables false
set_option linter.unusedSimpArgs false
set_option maxRecDepth 100000
set_option maxHeartbeats 4000000
noncomputable section
namespace Go.Z
open Go Go.Abs Go.W
def q1t (a0:qc)(a1:List UInt8)(s0:Int):Option (Int⊕(Int⊕Int)):=
 cond (decide (s0<((a0.units.getD []).length:Int)))
  (jy (zz (a0.units.getD []) s0) fun v10=>
  cond (decide (v10.name=a1))
   (some (.inr (.inl s0)))
   (some (.inl (j8 .i64 (s0+1)))))
  (some (.inr (.inr s0)))
def qmp (a0:qc)(a1:List UInt8)(s0:Int):qg:=⟨[(1,.str a1,false),(2,.vptr (.agg [Iv a0.day,sl 5 zg a0.lots,sl 4 za a0.products,sl 8 vun a0.units]),false),(5,Iv s0,false)],[]⟩
def qpq (a0:qc)(a1:List UInt8):Int⊕Int→qn×qg
 | .inl d=>(.ret,⟨[(4,Iv d,false)],[]⟩)
 | .inr d=>(.exit 0,⟨[(1,.str a1,false),(2,.vptr (.agg [Iv a0.day,sl 5 zg a0.lots,sl 4 za a0.products,sl 8 vun a0.units]),false),(5,Iv d,false),(10,.bool false,false)],[]⟩)
theorem jtb (a0:qc)(a1:List UInt8)(s0:Int)(r)(h:q1t a0 a1 s0=some r):y6 pr qt0 (qmp a0 a1) (qpq a0 a1) s0 r:=by
 unfold q1t at h
 rcases jx h with⟨h9,h⟩|⟨h9,h⟩
 ·obtain⟨v10,h11,h⟩:=jw h
  rcases jx h with⟨h12,h⟩|⟨h12,h⟩
  ·cases h
   exact zd (by simp only[go_sem,seval,qt0,qmp,h9,jz h11,h12,qpq]<;>rfl)
  cases h
  exact zq (by simp only[go_sem,seval,qt0,qmp,h9,jz h11,h12]<;>rfl)
 cases h
 exact zd (by simp only[go_sem,seval,qt0,qmp,h9,qpq]<;>rfl)
theorem jgo (a0:qc)(a1:List UInt8){s0:Int}{d}(h:itO (q1t a0 a1) s0=some d):X pr (.loop qt0) (qmp a0 a1 s0)=some (qpq a0 a1 d):=km (jtb a0 a1) (fun d=>by rcases d with d|d<;>(intro hh;cases hh)) h
def f27 (a0:qc)(a1:List UInt8):Option Int:=
 jy (itO (q1t a0 a1) 0) fun d13=>match d13 with
  | .inl d15=>
   some d15
  | .inr d16=>
   some (-1)
theorem W27 {a0:qc}{a1:List UInt8}{r}(h:f27 a0 a1=some r):j6 pr (X pr) 27 [.agg [Iv a0.day,sl 5 zg a0.lots,sl 4 za a0.products,sl 8 vun a0.units],.str a1]=some (Iv r,false):=by
 unfold f27 at h
 obtain⟨d13,h14,h⟩:=jw h
 rcases d13 with d15|d16
 ·have wh14:=jgo a0 a1 h14
  dsimp only[qmp,qpq]at wh14
  obtain rfl:=oi h
  refine zk c27 ?_
  simp only[go_sem,seval,c27,wh14]
  exact⟨_,rfl⟩
 have wh14:=jgo a0 a1 h14
 dsimp only[qmp,qpq]at wh14
 obtain rfl:=oi h
 refine zk c27 ?_
 simp only[go_sem,seval,c27,wh14]
 exact⟨_,rfl⟩
def q1i (a0:qc)(a1:List UInt8)(s0:Int):Option (Int⊕(Int⊕Int)):=
 cond (decide (s0<((a0.lots.getD []).length:Int)))
  (jy (zz (a0.lots.getD []) s0) fun v10=>
  cond (decide (v10.name=a1))
   (some (.inr (.inl s0)))
   (some (.inl (j8 .i64 (s0+1)))))
  (some (.inr (.inr s0)))
def qml (a0:qc)(a1:List UInt8)(s0:Int):qg:=⟨[(1,.str a1,false),(2,.vptr (.agg [Iv a0.day,sl 5 zg a0.lots,sl 4 za a0.products,sl 8 vun a0.units]),false),(5,Iv s0,false)],[]⟩
def qp3 (a0:qc)(a1:List UInt8):Int⊕Int→qn×qg
 | .inl d=>(.ret,⟨[(4,Iv d,false)],[]⟩)
 | .inr d=>(.exit 0,⟨[(1,.str a1,false),(2,.vptr (.agg [Iv a0.day,sl 5 zg a0.lots,sl 4 za a0.products,sl 8 vun a0.units]),false),(5,Iv d,false),(10,.bool false,false)],[]⟩)
theorem jth (a0:qc)(a1:List UInt8)(s0:Int)(r)(h:q1i a0 a1 s0=some r):y6 pr qtt (qml a0 a1) (qp3 a0 a1) s0 r:=by
 unfold q1i at h
 rcases jx h with⟨h9,h⟩|⟨h9,h⟩
 ·obtain⟨v10,h11,h⟩:=jw h
  rcases jx h with⟨h12,h⟩|⟨h12,h⟩
  ·cases h
   exact zd (by simp only[go_sem,seval,qtt,qml,h9,jz h11,h12,qp3]<;>rfl)
  cases h
  exact zq (by simp only[go_sem,seval,qtt,qml,h9,jz h11,h12]<;>rfl)
 cases h
 exact zd (by simp only[go_sem,seval,qtt,qml,h9,qp3]<;>rfl)
theorem jgx (a0:qc)(a1:List UInt8){s0:Int}{d}(h:itO (q1i a0 a1) s0=some d):X pr (.loop qtt) (qml a0 a1 s0)=some (qp3 a0 a1 d):=km (jth a0 a1) (fun d=>by rcases d with d|d<;>(intro hh;cases hh)) h
def f28 (a0:qc)(a1:List UInt8):Option Int:=
 jy (itO (q1i a0 a1) 0) fun d13=>match d13 with
  | .inl d15=>
   some d15
  | .inr d16=>
   some (-1)
theorem W28 {a0:qc}{a1:List UInt8}{r}(h:f28 a0 a1=some r):j6 pr (X pr) 28 [.agg [Iv a0.day,sl 5 zg a0.lots,sl 4 za a0.products,sl 8 vun a0.units],.str a1]=some (Iv r,false):=by
 unfold f28 at h
 obtain⟨d13,h14,h⟩:=jw h
 rcases d13 with d15|d16
 ·have wh14:=jgx a0 a1 h14
  dsimp only[qml,qp3]at wh14
  obtain rfl:=oi h
  refine zk c28 ?_
  simp only[go_sem,seval,c28,wh14]
  exact⟨_,rfl⟩
 have wh14:=jgx a0 a1 h14
 dsimp only[qml,qp3]at wh14
 obtain rfl:=oi h
 refine zk c28 ?_
 simp only[go_sem,seval,c28,wh14]
 exact⟨_,rfl⟩
def qx9 (a0:qc)(a1:List UInt8)(s0:Int):Option (Int⊕(Int⊕Int)):=
 cond (decide (s0<((a0.products.getD []).length:Int)))
  (jy (zz (a0.products.getD []) s0) fun v10=>
  cond (decide (v10.name=a1))
   (some (.inr (.inl s0)))
   (some (.inl (j8 .i64 (s0+1)))))
  (some (.inr (.inr s0)))
def qjj (a0:qc)(a1:List UInt8)(s0:Int):qg:=⟨[(1,.str a1,false),(2,.vptr (.agg [Iv a0.day,sl 5 zg a0.lots,sl 4 za a0.products,sl 8 vun a0.units]),false),(5,Iv s0,false)],[]⟩
def qlx (a0:qc)(a1:List UInt8):Int⊕Int→qn×qg
 | .inl d=>(.ret,⟨[(4,Iv d,false)],[]⟩)
 | .inr d=>(.exit 0,⟨[(1,.str a1,false),(2,.vptr (.agg [Iv a0.day,sl 5 zg a0.lots,sl 4 za a0.products,sl 8 vun a0.units]),false),(5,Iv d,false),(10,.bool false,false)],[]⟩)
theorem jnj (a0:qc)(a1:List UInt8)(s0:Int)(r)(h:qx9 a0 a1 s0=some r):y6 pr qpy (qjj a0 a1) (qlx a0 a1) s0 r:=by
 unfold qx9 at h
 rcases jx h with⟨h9,h⟩|⟨h9,h⟩
 ·obtain⟨v10,h11,h⟩:=jw h
  rcases jx h with⟨h12,h⟩|⟨h12,h⟩
  ·cases h
   exact zd (by simp only[go_sem,seval,qpy,qjj,h9,jz h11,h12,qlx]<;>rfl)
  cases h
  exact zq (by simp only[go_sem,seval,qpy,qjj,h9,jz h11,h12]<;>rfl)
 cases h
 exact zd (by simp only[go_sem,seval,qpy,qjj,h9,qlx]<;>rfl)
theorem ja8 (a0:qc)(a1:List UInt8){s0:Int}{d}(h:itO (qx9 a0 a1) s0=some d):X pr (.loop qpy) (qjj a0 a1 s0)=some (qlx a0 a1 d):=km (jnj a0 a1) (fun d=>by rcases d with d|d<;>(intro hh;cases hh)) h
def f144 (a0:qc)(a1:List UInt8):Option Int:=
 jy (itO (qx9 a0 a1) 0) fun d13=>match d13 with
  | .inl d15=>
   some d15
  | .inr d16=>
   some (-1)
theorem q2e {a0:qc}{a1:List UInt8}{r}(h:f144 a0 a1=some r):j6 pr (X pr) 144 [.agg [Iv a0.day,sl 5 zg a0.lots,sl 4 za a0.products,sl 8 vun a0.units],.str a1]=some (Iv r,false):=by
 unfold f144 at h
 obtain⟨d13,h14,h⟩:=jw h
 rcases d13 with d15|d16
 ·have wh14:=ja8 a0 a1 h14
  dsimp only[qjj,qlx]at wh14
  obtain rfl:=oi h
  refine zk c144 ?_
  simp only[go_sem,seval,c144,wh14]
  exact⟨_,rfl⟩
 have wh14:=ja8 a0 a1 h14
 dsimp only[qjj,qlx]at wh14
 obtain rfl:=oi h
 refine zk c144 ?_
 simp only[go_sem,seval,c144,wh14]
 exact⟨_,rfl⟩
def qvt (a0:Option (List ql))(s0:Int)(s1:Int):Option (Int⊕(Unit⊕Int)):=
 jy (zz (a0.getD []) s0) fun v79=>
 cond (decide (s1<((v79.names.getD []).length:Int)))
  (jy (zz (v79.names.getD []) s1) fun v82=>
  cond (decide (40<(v82.length:Int)))
   (some (.inr (.inl ())))
   (some (.inl (j8 .i64 (s1+1)))))
  (some (.inr (.inr s1)))
def qqr (a0:Option (List ql))(s0:Int)(s1:Int):qg:=⟨[(0,sl 5 vev a0,false),(5,Iv s0,false),(6,Iv s1,false)],[]⟩
def qtq (a0:Option (List ql))(s0:Int):Unit⊕Int→qn×qg
 | .inl d=>(.ret,⟨[(4,.bool false,false)],[]⟩)
 | .inr d=>(.exit 2,⟨[(0,sl 5 vev a0,false),(5,Iv s0,false),(6,Iv d,false),(58,.bool false,false)],[]⟩)
theorem j5i (a0:Option (List ql))(s0:Int)(s1:Int)(r)(h:qvt a0 s0 s1=some r):y6 pr qzf (qqr a0 s0) (qtq a0 s0) s1 r:=by
 unfold qvt at h
 obtain⟨v79,h80,h⟩:=jw h
 rcases jx h with⟨h81,h⟩|⟨h81,h⟩
 ·obtain⟨v82,h83,h⟩:=jw h
  rcases jx h with⟨h84,h⟩|⟨h84,h⟩
  ·cases h
   exact zd (by simp only[go_sem,seval,qzf,qqr,jz h80,h81,jz h83,h84,qtq]<;>rfl)
  cases h
  exact zq (by simp only[go_sem,seval,qzf,qqr,jz h80,h81,jz h83,h84]<;>rfl)
 cases h
 exact zd (by simp only[go_sem,seval,qzf,qqr,jz h80,h81,qtq]<;>rfl)
theorem jkn (a0:Option (List ql))(s0:Int){s1:Int}{d}(h:itO (qvt a0 s0) s1=some d):X pr (.loop qzf) (qqr a0 s0 s1)=some (qtq a0 s0 d):=km (j5i a0 s0) (fun d=>by rcases d with d|d<;>(intro hh;cases hh)) h
def qvo (a0:Option (List ql))(s0:Int):Option (Int⊕(Unit⊕Int)):=
 cond (decide (s0<((a0.getD []).length:Int)))
  (jy (zz (a0.getD []) s0) fun v61=>
  cond (decide (40<(v61.kind.length:Int)))
   (some (.inr (.inl ())))
   (cond (decide (6<((v61.names.getD []).length:Int)))
    (some (.inr (.inl ())))
    (cond (decide (8<((v61.values.getD []).length:Int)))
     (some (.inr (.inl ())))
     (cond (decide (200<(v61.text.length:Int)))
      (some (.inr (.inl ())))
      (jy (itO (qvt a0 s0) 0) fun d85=>match d85 with
       | .inl d87=>
        some (.inr (.inl ()))
       | .inr d88=>
        some (.inl (j8 .i64 (s0+1))))))))
  (some (.inr (.inr s0)))
def qi2 (a0:Option (List ql))(s0:Int):qg:=⟨[(0,sl 5 vev a0,false),(5,Iv s0,false)],[]⟩
def qj9 (a0:Option (List ql)):Unit⊕Int→qn×qg
 | .inl d=>(.ret,⟨[(4,.bool false,false)],[]⟩)
 | .inr d=>(.exit 0,⟨[(0,sl 5 vev a0,false),(5,Iv d,false),(14,.bool false,false)],[]⟩)
theorem j9q (a0:Option (List ql))(s0:Int)(r)(h:qvo a0 s0=some r):y6 pr qoh (qi2 a0) (qj9 a0) s0 r:=by
 unfold qvo at h
 rcases jx h with⟨h60,h⟩|⟨h60,h⟩
 ·obtain⟨v61,h62,h⟩:=jw h
  rcases jx h with⟨h63,h⟩|⟨h63,h⟩
  ·cases h
   exact zd (by simp only[go_sem,seval,qoh,qi2,h60,jz h62,h63,qj9]<;>rfl)
  rcases jx h with⟨h64,h⟩|⟨h64,h⟩
  ·cases h
   exact zd (by simp only[go_sem,seval,qoh,qi2,h60,jz h62,h63,h64,qj9]<;>rfl)
  rcases jx h with⟨h65,h⟩|⟨h65,h⟩
  ·cases h
   exact zd (by simp only[go_sem,seval,qoh,qi2,h60,jz h62,h63,h64,h65,qj9]<;>rfl)
  rcases jx h with⟨h66,h⟩|⟨h66,h⟩
  ·cases h
   exact zd (by simp only[go_sem,seval,qoh,qi2,h60,jz h62,h63,h64,h65,h66,qj9]<;>rfl)
  obtain⟨d85,h86,h⟩:=jw h
  rcases d85 with d87|d88
  ·have wh86:=jkn a0 s0 h86
   dsimp only[qqr,qtq]at wh86
   cases h
   exact zd (by simp only[go_sem,seval,qoh,qi2,h60,jz h62,h63,h64,h65,h66,wh86,qj9]<;>rfl)
  have wh86:=jkn a0 s0 h86
  dsimp only[qqr,qtq]at wh86
  cases h
  exact zq (by simp only[go_sem,seval,qoh,qi2,h60,jz h62,h63,h64,h65,h66,wh86]<;>rfl)
 cases h
 exact zd (by simp only[go_sem,seval,qoh,qi2,h60,qj9]<;>rfl)
theorem jov (a0:Option (List ql)){s0:Int}{d}(h:itO (qvo a0) s0=some d):X pr (.loop qoh) (qi2 a0 s0)=some (qj9 a0 d):=km (j9q a0) (fun d=>by rcases d with d|d<;>(intro hh;cases hh)) h
def f7 (a0:Option (List ql))(a1:Int):Option Bool:=
 cond (decide (a1<((a0.getD []).length:Int)))
  (some false)
  (jy (itO (qvo a0) 0) fun d89=>match d89 with
   | .inl d91=>
    some false
   | .inr d92=>
    some true)
theorem W7 {a0:Option (List ql)}{a1:Int}{r}(h:f7 a0 a1=some r):j6 pr (X pr) 7 [sl 5 vev a0,Iv a1]=some (.bool r,false):=by
 unfold f7 at h
 rcases jx h with⟨h1,h⟩|⟨h1,h⟩
 ·obtain rfl:=oi h
  refine zk c7 ?_
  simp only[go_sem,seval,c7,h1]
  exact⟨_,rfl⟩
 obtain⟨d89,h90,h⟩:=jw h
 rcases d89 with d91|d92
 ·have wh90:=jov a0 h90
  dsimp only[qi2,qj9]at wh90
  obtain rfl:=oi h
  refine zk c7 ?_
  simp only[go_sem,seval,c7,h1,wh90]
  exact⟨_,rfl⟩
 have wh90:=jov a0 h90
 dsimp only[qi2,qj9]at wh90
 obtain rfl:=oi h
 refine zk c7 ?_
 simp only[go_sem,seval,c7,h1,wh90]
 exact⟨_,rfl⟩
def qmr (a0:qc)(a1:qe)(a2:List UInt8)(s0:Int×Int):Option ((Int×Int)⊕((Int×Int))):=
 cond (decide (s0.2<((a1.uses.getD []).length:Int)))
  (jy (zz (a1.uses.getD []) s0.2) fun v18=>
  jy (f28 a0 v18.k) fun v20=>
  jy (zz (a0.lots.getD []) v20) fun v22=>
  cond (decide (v22.kind=a2))
   (some (.inl (j8 .i64 (s0.1+v18.n),j8 .i64 (s0.2+1))))
   (some (.inl (s0.1,j8 .i64 (s0.2+1)))))
  (some (.inr (s0.1,s0.2)))
def qlt (a0:qc)(a1:qe)(a2:List UInt8)(s0:Int×Int):qg:=⟨[(2,.str a2,false),(3,.vptr (.agg [Iv a0.day,sl 5 zg a0.lots,sl 4 za a0.products,sl 8 vun a0.units]),false),(4,.vptr (.agg [.str a1.name,.str a1.product,Iv a1.version,sl 2 vsi a1.uses,sl 3 zp a1.results,.str a1.partner,.bool a1.shipped,Iv a1.complaints]),false),(7,Iv s0.1,false),(8,Iv s0.2,false)],[]⟩
def quq (a0:qc)(a1:qe)(a2:List UInt8)(d:(Int×Int)):qn×qg:=(.exit 0,⟨[(2,.str a2,false),(3,.vptr (.agg [Iv a0.day,sl 5 zg a0.lots,sl 4 za a0.products,sl 8 vun a0.units]),false),(4,.vptr (.agg [.str a1.name,.str a1.product,Iv a1.version,sl 2 vsi a1.uses,sl 3 zp a1.results,.str a1.partner,.bool a1.shipped,Iv a1.complaints]),false),(7,Iv d.1,false),(8,Iv d.2,false),(13,.bool false,false)],[]⟩)
theorem jmh (a0:qc)(a1:qe)(a2:List UInt8)(s0:Int×Int)(r)(h:qmr a0 a1 a2 s0=some r):y6 pr qpc (qlt a0 a1 a2) (quq a0 a1 a2) s0 r:=by
 unfold qmr at h
 rcases jx h with⟨h17,h⟩|⟨h17,h⟩
 ·obtain⟨v18,h19,h⟩:=jw h
  obtain⟨v20,h21,h⟩:=jw h
  have wh21:=W28 h21
  obtain⟨v22,h23,h⟩:=jw h
  rcases jx h with⟨h24,h⟩|⟨h24,h⟩
  ·cases h
   exact zq (by simp only[go_sem,seval,qpc,qlt,h17,jz h19,wh21,jz h23,h24]<;>rfl)
  cases h
  exact zq (by simp only[go_sem,seval,qpc,qlt,h17,jz h19,wh21,jz h23,h24]<;>rfl)
 cases h
 exact zd (by simp only[go_sem,seval,qpc,qlt,h17,quq]<;>rfl)
theorem jlq (a0:qc)(a1:qe)(a2:List UInt8){s0:Int×Int}{d}(h:itO (qmr a0 a1 a2) s0=some d):X pr (.loop qpc) (qlt a0 a1 a2 s0)=some (quq a0 a1 a2 d):=km (jmh a0 a1 a2) (fun d hh=>by cases hh) h
def f145 (a0:qc)(a1:qe)(a2:List UInt8):Option Int:=
 jy (itO (qmr a0 a1 a2) (0,0)) fun d25=>
 some d25.1
theorem j8r {a0:qc}{a1:qe}{a2:List UInt8}{r}(h:f145 a0 a1 a2=some r):j6 pr (X pr) 145 [.agg [Iv a0.day,sl 5 zg a0.lots,sl 4 za a0.products,sl 8 vun a0.units],.agg [.str a1.name,.str a1.product,Iv a1.version,sl 2 vsi a1.uses,sl 3 zp a1.results,.str a1.partner,.bool a1.shipped,Iv a1.complaints],.str a2]=some (Iv r,false):=by
 unfold f145 at h
 obtain⟨d25,h26,h⟩:=jw h
 have wh26:=jlq a0 a1 a2 h26
 dsimp only[qlt,quq]at wh26
 obtain rfl:=oi h
 refine zk c145 ?_
 simp only[go_sem,seval,c145,wh26]
 exact⟨_,rfl⟩
def f78 (a0:qc)(a1:qe):Option qq:=
 jy (f144 a0 a1.product) fun v1=>
 jy (zz (a0.products.getD []) v1) fun v3=>
 jy (zz (v3.docs.getD []) (j8 .i64 (a1.version-1))) fun v5=>
 some v5
theorem W78 {a0:qc}{a1:qe}{r}(h:f78 a0 a1=some r):j6 pr (X pr) 78 [.agg [Iv a0.day,sl 5 zg a0.lots,sl 4 za a0.products,sl 8 vun a0.units],.agg [.str a1.name,.str a1.product,Iv a1.version,sl 2 vsi a1.uses,sl 3 zp a1.results,.str a1.partner,.bool a1.shipped,Iv a1.complaints]]=some (.agg [sl 2 vsi r.needs,sl 3 zp r.tests],false):=by
 unfold f78 at h
 obtain⟨v1,h2,h⟩:=jw h
 have wh2:=q2e h2
 obtain⟨v3,h4,h⟩:=jw h
 obtain⟨v5,h6,h⟩:=jw h
 obtain rfl:=oi h
 refine zk c78 ?_
 simp only[go_sem,seval,c78,wh2,jz h4,jz h6]
 exact⟨_,rfl⟩
def qqu (a0:qe)(a1:qi)(s0:Bool×Int):Option ((Bool×Int)⊕((Bool×Int))):=
 cond (decide (s0.2<((a0.results.getD []).length:Int)))
  (jy (zz (a0.results.getD []) s0.2) fun v14=>
  cond (decide (v14.k=a1.k))
   (cond (decide (v14.a=a0.version))
    (cond (decide (a1.a≤v14.b))
     (some (.inl (decide (v14.b≤a1.b),j8 .i64 (s0.2+1))))
     (some (.inl (false,j8 .i64 (s0.2+1)))))
    (some (.inl (s0.1,j8 .i64 (s0.2+1)))))
   (some (.inl (s0.1,j8 .i64 (s0.2+1)))))
  (some (.inr (s0.1,s0.2)))
def qkk (a0:qe)(a1:qi)(s0:Bool×Int):qg:=⟨[(2,.vptr (.agg [.str a0.name,.str a0.product,Iv a0.version,sl 2 vsi a0.uses,sl 3 zp a0.results,.str a0.partner,.bool a0.shipped,Iv a0.complaints]),false),(3,.vptr (.agg [.str a1.k,Iv a1.a,Iv a1.b]),false),(5,.bool s0.1,false),(6,Iv s0.2,false)],[]⟩
def qv8 (a0:qe)(a1:qi)(d:(Bool×Int)):qn×qg:=(.exit 0,⟨[(2,.vptr (.agg [.str a0.name,.str a0.product,Iv a0.version,sl 2 vsi a0.uses,sl 3 zp a0.results,.str a0.partner,.bool a0.shipped,Iv a0.complaints]),false),(3,.vptr (.agg [.str a1.k,Iv a1.a,Iv a1.b]),false),(5,.bool d.1,false),(6,Iv d.2,false),(12,.bool false,false)],[]⟩)
theorem jur (a0:qe)(a1:qi)(s0:Bool×Int)(r)(h:qqu a0 a1 s0=some r):y6 pr qnm (qkk a0 a1) (qv8 a0 a1) s0 r:=by
 unfold qqu at h
 rcases jx h with⟨h13,h⟩|⟨h13,h⟩
 ·obtain⟨v14,h15,h⟩:=jw h
  rcases jx h with⟨h16,h⟩|⟨h16,h⟩
  ·rcases jx h with⟨h17,h⟩|⟨h17,h⟩
   ·rcases jx h with⟨h18,h⟩|⟨h18,h⟩
    ·cases h
     exact zq (by simp only[go_sem,seval,qnm,qkk,h13,jz h15,h16,h17,h18]<;>rfl)
    cases h
    exact zq (by simp only[go_sem,seval,qnm,qkk,h13,jz h15,h16,h17,h18]<;>rfl)
   cases h
   exact zq (by simp only[go_sem,seval,qnm,qkk,h13,jz h15,h16,h17]<;>rfl)
  cases h
  exact zq (by simp only[go_sem,seval,qnm,qkk,h13,jz h15,h16]<;>rfl)
 cases h
 exact zd (by simp only[go_sem,seval,qnm,qkk,h13,qv8]<;>rfl)
theorem jxy (a0:qe)(a1:qi){s0:Bool×Int}{d}(h:itO (qqu a0 a1) s0=some d):X pr (.loop qnm) (qkk a0 a1 s0)=some (qv8 a0 a1 d):=km (jur a0 a1) (fun d hh=>by cases hh) h
def f79 (a0:qe)(a1:qi):Option Bool:=
 jy (itO (qqu a0 a1) (false,0)) fun d19=>
 some d19.1
theorem W79 {a0:qe}{a1:qi}{r}(h:f79 a0 a1=some r):j6 pr (X pr) 79 [.agg [.str a0.name,.str a0.product,Iv a0.version,sl 2 vsi a0.uses,sl 3 zp a0.results,.str a0.partner,.bool a0.shipped,Iv a0.complaints],.agg [.str a1.k,Iv a1.a,Iv a1.b]]=some (.bool r,false):=by
 unfold f79 at h
 obtain⟨d19,h20,h⟩:=jw h
 have wh20:=jxy a0 a1 h20
 dsimp only[qkk,qv8]at wh20
 obtain rfl:=oi h
 refine zk c79 ?_
 simp only[go_sem,seval,c79,wh20]
 exact⟨_,rfl⟩
def f80 (a0:qc)(a1:qe):Option Int:=
 jy (f144 a0 a1.product) fun v1=>
 jy (zz (a0.products.getD []) v1) fun v3=>
 some ((v3.docs.getD []).length:Int)
theorem W80 {a0:qc}{a1:qe}{r}(h:f80 a0 a1=some r):j6 pr (X pr) 80 [.agg [Iv a0.day,sl 5 zg a0.lots,sl 4 za a0.products,sl 8 vun a0.units],.agg [.str a1.name,.str a1.product,Iv a1.version,sl 2 vsi a1.uses,sl 3 zp a1.results,.str a1.partner,.bool a1.shipped,Iv a1.complaints]]=some (Iv r,false):=by
 unfold f80 at h
 obtain⟨v1,h2,h⟩:=jw h
 have wh2:=q2e h2
 obtain⟨v3,h4,h⟩:=jw h
 obtain rfl:=oi h
 refine zk c80 ?_
 simp only[go_sem,seval,c80,wh2,jz h4]
 exact⟨_,rfl⟩
def qrb (a0:qc)(a1:qe)(v1:qq)(s0:Int):Option (Int⊕(Unit⊕Int)):=
 cond (decide (s0<((v1.needs.getD []).length:Int)))
  (jy (zz (v1.needs.getD []) s0) fun v16=>
  jy (f145 a0 a1 v16.k) fun v18=>
  cond (decide (v18<v16.n))
   (some (.inr (.inl ())))
   (some (.inl (j8 .i64 (s0+1)))))
  (some (.inr (.inr s0)))
def qmf (a0:qc)(a1:qe)(v1:qq)(s0:Int):qg:=⟨[(2,.vptr (.agg [Iv a0.day,sl 5 zg a0.lots,sl 4 za a0.products,sl 8 vun a0.units]),false),(3,.vptr (.agg [.str a1.name,.str a1.product,Iv a1.version,sl 2 vsi a1.uses,sl 3 zp a1.results,.str a1.partner,.bool a1.shipped,Iv a1.complaints]),false),(5,.vptr (.agg [sl 2 vsi v1.needs,sl 3 zp v1.tests]),false),(6,Iv s0,false)],[]⟩
def qom (a0:qc)(a1:qe)(v1:qq):Unit⊕Int→qn×qg
 | .inl d=>(.ret,⟨[(4,.bool false,false)],[]⟩)
 | .inr d=>(.exit 0,⟨[(2,.vptr (.agg [Iv a0.day,sl 5 zg a0.lots,sl 4 za a0.products,sl 8 vun a0.units]),false),(3,.vptr (.agg [.str a1.name,.str a1.product,Iv a1.version,sl 2 vsi a1.uses,sl 3 zp a1.results,.str a1.partner,.bool a1.shipped,Iv a1.complaints]),false),(5,.vptr (.agg [sl 2 vsi v1.needs,sl 3 zp v1.tests]),false),(6,Iv d,false),(14,.bool false,false)],[]⟩)
theorem jp9 (a0:qc)(a1:qe)(v1:qq)(s0:Int)(r)(h:qrb a0 a1 v1 s0=some r):y6 pr qun (qmf a0 a1 v1) (qom a0 a1 v1) s0 r:=by
 unfold qrb at h
 rcases jx h with⟨h15,h⟩|⟨h15,h⟩
 ·obtain⟨v16,h17,h⟩:=jw h
  obtain⟨v18,h19,h⟩:=jw h
  have wh19:=j8r h19
  rcases jx h with⟨h20,h⟩|⟨h20,h⟩
  ·cases h
   exact zd (by simp only[go_sem,seval,qun,qmf,h15,jz h17,wh19,h20,qom]<;>rfl)
  cases h
  exact zq (by simp only[go_sem,seval,qun,qmf,h15,jz h17,wh19,h20]<;>rfl)
 cases h
 exact zd (by simp only[go_sem,seval,qun,qmf,h15,qom]<;>rfl)
theorem jgi (a0:qc)(a1:qe)(v1:qq){s0:Int}{d}(h:itO (qrb a0 a1 v1) s0=some d):X pr (.loop qun) (qmf a0 a1 v1 s0)=some (qom a0 a1 v1 d):=km (jp9 a0 a1 v1) (fun d=>by rcases d with d|d<;>(intro hh;cases hh)) h
def f81 (a0:qc)(a1:qe):Option Bool:=
 jy (f78 a0 a1) fun v1=>
 jy (itO (qrb a0 a1 v1) 0) fun d21=>match d21 with
  | .inl d23=>
   some false
  | .inr d24=>
   some true
theorem W81 {a0:qc}{a1:qe}{r}(h:f81 a0 a1=some r):j6 pr (X pr) 81 [.agg [Iv a0.day,sl 5 zg a0.lots,sl 4 za a0.products,sl 8 vun a0.units],.agg [.str a1.name,.str a1.product,Iv a1.version,sl 2 vsi a1.uses,sl 3 zp a1.results,.str a1.partner,.bool a1.shipped,Iv a1.complaints]]=some (.bool r,false):=by
 unfold f81 at h
 obtain⟨v1,h2,h⟩:=jw h
 have wh2:=W78 h2
 obtain⟨d21,h22,h⟩:=jw h
 rcases d21 with d23|d24
 ·have wh22:=jgi a0 a1 v1 h22
  dsimp only[qmf,qom]at wh22
  obtain rfl:=oi h
  refine zk c81 ?_
  simp only[go_sem,seval,c81,wh2,wh22]
  exact⟨_,rfl⟩
 have wh22:=jgi a0 a1 v1 h22
 dsimp only[qmf,qom]at wh22
 obtain rfl:=oi h
 refine zk c81 ?_
 simp only[go_sem,seval,c81,wh2,wh22]
 exact⟨_,rfl⟩
def qrc (a1:qe)(v1:qq)(s0:(Option (List (List UInt8)))×Int×Bool):Option (((Option (List (List UInt8)))×Int×Bool)⊕(((Option (List (List UInt8)))×Bool×Int))):=
 cond (decide (s0.2.1<((v1.tests.getD []).length:Int)))
  (jy (zz (v1.tests.getD []) s0.2.1) fun v22=>
  jy (f79 a1 v22) fun v24=>
  cond v24
   (some (.inl (s0.1,j8 .i64 (s0.2.1+1),s0.2.2)))
   (cond s0.2.2
    (jy (apO s0.1 [v22.k]) fun v28=>
    some (.inl (v28,j8 .i64 (s0.2.1+1),true)))
    (cond s0.1.isNone
     (jy (apO s0.1 [v22.k]) fun v31=>
     some (.inl (v31,j8 .i64 (s0.2.1+1),true)))
     (none))))
  (some (.inr (s0.1,s0.2.2,s0.2.1)))
def qm8 (a1:qe)(v1:qq)(s0:(Option (List (List UInt8)))×Int×Bool):qg:=⟨[(3,.vptr (.agg [.str a1.name,.str a1.product,Iv a1.version,sl 2 vsi a1.uses,sl 3 zp a1.results,.str a1.partner,.bool a1.shipped,Iv a1.complaints]),false),(5,.vptr (.agg [sl 2 vsi v1.needs,sl 3 zp v1.tests]),false),(6,sl 1 yc s0.1,s0.2.2),(7,Iv s0.2.1,false)],[]⟩
def qwk (a1:qe)(v1:qq)(d:((Option (List (List UInt8)))×Bool×Int)):qn×qg:=(.exit 0,⟨[(3,.vptr (.agg [.str a1.name,.str a1.product,Iv a1.version,sl 2 vsi a1.uses,sl 3 zp a1.results,.str a1.partner,.bool a1.shipped,Iv a1.complaints]),false),(5,.vptr (.agg [sl 2 vsi v1.needs,sl 3 zp v1.tests]),false),(6,sl 1 yc d.1,d.2.1),(7,Iv d.2.2,false),(15,.bool false,false)],[]⟩)
theorem jup (a1:qe)(v1:qq)(s0:(Option (List (List UInt8)))×Int×Bool)(r)(h:qrc a1 v1 s0=some r):y6 pr qqv (qm8 a1 v1) (qwk a1 v1) s0 r:=by
 unfold qrc at h
 rcases jx h with⟨h21,h⟩|⟨h21,h⟩
 ·obtain⟨v22,h23,h⟩:=jw h
  obtain⟨v24,h25,h⟩:=jw h
  have wh25:=W79 h25
  rcases jx h with⟨h26,h⟩|⟨h26,h⟩
  ·cases h
   exact zq (by simp only[go_sem,seval,qqv,qm8,h21,jz h23,wh25,h26]<;>rfl)
  rcases jx h with⟨h27,h⟩|⟨h27,h⟩
  ·obtain⟨v28,h29,h⟩:=jw h
   cases h
   exact zq (by simp only[go_sem,seval,qqv,qm8,h21,jz h23,wh25,h26,h27,qw4 h29]<;>rfl)
  rcases jx h with⟨h30,h⟩|⟨h30,h⟩
  ·obtain⟨v31,h32,h⟩:=jw h
   cases h
   exact zq (by simp only[go_sem,seval,qqv,qm8,h21,jz h23,wh25,h26,h27,h30,qxb h32 h30]<;>rfl)
  cases h
 cases h
 exact zd (by simp only[go_sem,seval,qqv,qm8,h21,qwk]<;>rfl)
theorem jrt (a1:qe)(v1:qq){s0:(Option (List (List UInt8)))×Int×Bool}{d}(h:itO (qrc a1 v1) s0=some d):X pr (.loop qqv) (qm8 a1 v1 s0)=some (qwk a1 v1 d):=km (jup a1 v1) (fun d hh=>by cases hh) h
def f30 (a0:qc)(a1:qe):Option ((Option (List (List UInt8)))×Bool):=
 jy (f78 a0 a1) fun v1=>
 jy (itO (qrc a1 v1) (none,0,false)) fun d33=>
 some (d33.1,d33.2.1)
theorem W30 {a0:qc}{a1:qe}{r}(h:f30 a0 a1=some r):j6 pr (X pr) 30 [.agg [Iv a0.day,sl 5 zg a0.lots,sl 4 za a0.products,sl 8 vun a0.units],.agg [.str a1.name,.str a1.product,Iv a1.version,sl 2 vsi a1.uses,sl 3 zp a1.results,.str a1.partner,.bool a1.shipped,Iv a1.complaints]]=some (sl 1 yc r.1,r.2):=by
 unfold f30 at h
 obtain⟨v1,h2,h⟩:=jw h
 have wh2:=W78 h2
 obtain⟨d33,h34,h⟩:=jw h
 have wh34:=jrt a1 v1 h34
 dsimp only[qm8,qwk,qd8]at wh34
 obtain rfl:=oi h
 refine ki c30 ?_
 simp only[go_sem,seval,c30,wh2,wh34]
 exact⟨_,rfl⟩
def qno (a0:qc)(a1:qe)(s0:Int):Option (Int⊕(Unit⊕Int)):=
 cond (decide (s0<((a1.uses.getD []).length:Int)))
  (jy (zz (a1.uses.getD []) s0) fun v28=>
  jy (f28 a0 v28.k) fun v30=>
  jy (zz (a0.lots.getD []) v30) fun v32=>
  cond v32.held
   (some (.inr (.inl ())))
   (some (.inl (j8 .i64 (s0+1)))))
  (some (.inr (.inr s0)))
def ql7 (a0:qc)(a1:qe)(s0:Int):qg:=⟨[(2,.vptr (.agg [Iv a0.day,sl 5 zg a0.lots,sl 4 za a0.products,sl 8 vun a0.units]),false),(3,.vptr (.agg [.str a1.name,.str a1.product,Iv a1.version,sl 2 vsi a1.uses,sl 3 zp a1.results,.str a1.partner,.bool false,Iv a1.complaints]),false),(5,Iv s0,false)],[]⟩
def qop (a0:qc)(a1:qe):Unit⊕Int→qn×qg
 | .inl d=>(.ret,⟨[(4,Iv 34,false)],[]⟩)
 | .inr d=>(.exit 0,⟨[(2,.vptr (.agg [Iv a0.day,sl 5 zg a0.lots,sl 4 za a0.products,sl 8 vun a0.units]),false),(3,.vptr (.agg [.str a1.name,.str a1.product,Iv a1.version,sl 2 vsi a1.uses,sl 3 zp a1.results,.str a1.partner,.bool false,Iv a1.complaints]),false),(5,Iv d,false),(27,.bool false,false)],[]⟩)
theorem jvh (a0:qc)(a1:qe)(s0:Int)(r)(h:qno a0 a1 s0=some r):y6 pr qs5 (ql7 a0 a1) (qop a0 a1) s0 r:=by
 unfold qno at h
 rcases jx h with⟨h27,h⟩|⟨h27,h⟩
 ·obtain⟨v28,h29,h⟩:=jw h
  obtain⟨v30,h31,h⟩:=jw h
  have wh31:=W28 h31
  obtain⟨v32,h33,h⟩:=jw h
  rcases jx h with⟨h34,h⟩|⟨h34,h⟩
  ·cases h
   exact zd (by simp only[go_sem,seval,qs5,ql7,h27,jz h29,wh31,jz h33,h34,qop]<;>rfl)
  cases h
  exact zq (by simp only[go_sem,seval,qs5,ql7,h27,jz h29,wh31,jz h33,h34]<;>rfl)
 cases h
 exact zd (by simp only[go_sem,seval,qs5,ql7,h27,qop]<;>rfl)
theorem jgw (a0:qc)(a1:qe){s0:Int}{d}(h:itO (qno a0 a1) s0=some d):X pr (.loop qs5) (ql7 a0 a1 s0)=some (qop a0 a1 d):=km (jvh a0 a1) (fun d=>by rcases d with d|d<;>(intro hh;cases hh)) h
def f31 (a0:qc)(a1:qe):Option Int:=
 cond a1.shipped
  (some 21)
  (jy (f80 a0 (⟨a1.name,a1.product,a1.version,a1.uses,a1.results,a1.partner,false,a1.complaints⟩)) fun v2=>
  cond (decide (a1.version=v2))
   (jy (f81 a0 (⟨a1.name,a1.product,a1.version,a1.uses,a1.results,a1.partner,false,a1.complaints⟩)) fun v5=>
   cond v5
    (jy (f30 a0 (⟨a1.name,a1.product,a1.version,a1.uses,a1.results,a1.partner,false,a1.complaints⟩)) fun v8=>
    cond (decide (0<((v8.1.getD []).length:Int)))
     (some 31)
     (jy (itO (qno a0 a1) 0) fun d35=>match d35 with
      | .inl d37=>
       some 34
      | .inr d38=>
       some 0))
    (some 20))
   (some 32))
theorem W31 {a0:qc}{a1:qe}{r}(h:f31 a0 a1=some r):j6 pr (X pr) 31 [.agg [Iv a0.day,sl 5 zg a0.lots,sl 4 za a0.products,sl 8 vun a0.units],.agg [.str a1.name,.str a1.product,Iv a1.version,sl 2 vsi a1.uses,sl 3 zp a1.results,.str a1.partner,.bool a1.shipped,Iv a1.complaints]]=some (Iv r,false):=by
 unfold f31 at h
 rcases jx h with⟨h1,h⟩|⟨h1,h⟩
 ·obtain rfl:=oi h
  refine zk c31 ?_
  simp only[go_sem,seval,c31,h1]
  exact⟨_,rfl⟩
 obtain⟨v2,h3,h⟩:=jw h
 have wh3:=W80 h3
 rcases jx h with⟨h4,h⟩|⟨h4,h⟩
 ·obtain⟨v5,h6,h⟩:=jw h
  have wh6:=W81 h6
  rcases jx h with⟨h7,h⟩|⟨h7,h⟩
  ·obtain⟨v8,h9,h⟩:=jw h
   have wh9:=W30 h9
   rcases jx h with⟨h10,h⟩|⟨h10,h⟩
   ·obtain rfl:=oi h
    refine zk c31 ?_
    simp only[go_sem,seval,c31,h1,wh3,h4,wh6,h7,wh9,h10]
    exact⟨_,rfl⟩
   obtain⟨d35,h36,h⟩:=jw h
   rcases d35 with d37|d38
   ·have wh36:=jgw a0 a1 h36
    dsimp only[ql7,qop]at wh36
    obtain rfl:=oi h
    refine zk c31 ?_
    simp only[go_sem,seval,c31,h1,wh3,h4,wh6,h7,wh9,h10,wh36]
    exact⟨_,rfl⟩
   have wh36:=jgw a0 a1 h36
   dsimp only[ql7,qop]at wh36
   obtain rfl:=oi h
   refine zk c31 ?_
   simp only[go_sem,seval,c31,h1,wh3,h4,wh6,h7,wh9,h10,wh36]
   exact⟨_,rfl⟩
  obtain rfl:=oi h
  refine zk c31 ?_
  simp only[go_sem,seval,c31,h1,wh3,h4,wh6,h7]
  exact⟨_,rfl⟩
 obtain rfl:=oi h
 refine zk c31 ?_
 simp only[go_sem,seval,c31,h1,wh3,h4]
 exact⟨_,rfl⟩
end Go.Z
end
