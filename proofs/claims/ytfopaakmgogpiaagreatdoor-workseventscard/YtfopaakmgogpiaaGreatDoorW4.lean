/- Chapter 10. -/
import Derived.Test.YtfopaakmgogpiaaGreatDoorW1
import Derived.Test.YtfopaakmgogpiaaGreatDoorAbsL
set_option linter.unusedVariables false
set_option linter.unusedSimpArgs false
set_option maxRecDepth 100000
set_option maxHeartbeats 4000000
noncomputable section
namespace Go.Z
open Go Go.Abs Go.W
def qsm (a0:qq)(s0:Int×(Option (List qm))×Bool):Option ((Int×(Option (List qm))×Bool)⊕((Int×(Option (List qm))×Bool))):=
 cond (decide (s0.1<((a0.needs.getD []).length:Int)))
  (jy (zz (a0.needs.getD []) s0.1) fun v14=>
  cond s0.2.2
   (jy (apO s0.2.1 [v14]) fun v17=>
   some (.inl (j8 .i64 (s0.1+1),v17,true)))
   (cond s0.2.1.isNone
    (jy (apO s0.2.1 [v14]) fun v20=>
    some (.inl (j8 .i64 (s0.1+1),v20,true)))
    (none)))
  (some (.inr (s0.1,s0.2.1,s0.2.2)))
def ql5 (a0:qq)(s0:Int×(Option (List qm))×Bool):qg:=⟨[(1,.vptr (.agg [sl 2 vsi a0.needs,sl 3 zp a0.tests]),false),(2,.ptr 0 0,false),(3,.ptr 1 0,false),(9,sl 2 vsi a0.needs,false),(10,Lv a0.needs,false),(11,Iv s0.1,false)],[.cells [(.list true 0 [],false),(.list true 0 [],false)],.cells [(sl 2 vsi s0.2.1,s0.2.2),(.list true 0 [],false)]]⟩
def quj (a0:qq)(d:(Int×(Option (List qm))×Bool)):qn×qg:=(.exit 0,⟨[(1,.vptr (.agg [sl 2 vsi a0.needs,sl 3 zp a0.tests]),false),(2,.ptr 0 0,false),(3,.ptr 1 0,false),(9,sl 2 vsi a0.needs,false),(10,Lv a0.needs,false),(11,Iv d.1,false),(12,.bool false,false)],[.cells [(.list true 0 [],false),(.list true 0 [],false)],.cells [(sl 2 vsi d.2.1,d.2.2),(.list true 0 [],false)]]⟩)
theorem jlh (a0:qq)(s0:Int×(Option (List qm))×Bool)(r)(h:qsm a0 s0=some r):y6 pr qps (ql5 a0) (quj a0) s0 r:=by
 unfold qsm at h
 rcases jx h with⟨h13,h⟩|⟨h13,h⟩
 ·obtain⟨v14,h15,h⟩:=jw h
  rcases jx h with⟨h16,h⟩|⟨h16,h⟩
  ·obtain⟨v17,h18,h⟩:=jw h
   cases h
   exact zq (by simp only[go_sem,seval,qps,ql5,h13,jz h15,h16,qc5 h18]<;>rfl)
  rcases jx h with⟨h19,h⟩|⟨h19,h⟩
  ·obtain⟨v20,h21,h⟩:=jw h
   cases h
   exact zq (by simp only[go_sem,seval,qps,ql5,h13,jz h15,h16,h19,qc4 h21 h19]<;>rfl)
  cases h
 cases h
 exact zd (by simp only[go_sem,seval,qps,ql5,h13,quj]<;>rfl)
theorem jky (a0:qq){s0:Int×(Option (List qm))×Bool}{d}(h:itO (qsm a0) s0=some d):X pr (.loop qps) (ql5 a0 s0)=some (quj a0 d):=km (jlh a0) (fun d hh=>by cases hh) h
def qry (a0:qq)(d22:Int×(Option (List qm))×Bool)(s1:Int×(Option (List qi))×Bool):Option ((Int×(Option (List qi))×Bool)⊕((Int×(Option (List qi))×Bool))):=
 cond (decide (s1.1<((a0.tests.getD []).length:Int)))
  (jy (zz (a0.tests.getD []) s1.1) fun v37=>
  cond s1.2.2
   (jy (apO s1.2.1 [v37]) fun v40=>
   some (.inl (j8 .i64 (s1.1+1),v40,true)))
   (cond s1.2.1.isNone
    (jy (apO s1.2.1 [v37]) fun v43=>
    some (.inl (j8 .i64 (s1.1+1),v43,true)))
    (none)))
  (some (.inr (s1.1,s1.2.1,s1.2.2)))
def qlv (a0:qq)(d22:Int×(Option (List qm))×Bool)(s1:Int×(Option (List qi))×Bool):qg:=⟨[(2,.ptr 0 0,false),(3,.ptr 1 0,false),(23,sl 3 zp a0.tests,false),(24,Lv a0.tests,false),(25,Iv s1.1,false)],[.cells [(.list true 0 [],false),(.list true 0 [],false)],.cells [(sl 2 vsi d22.2.1,d22.2.2),(sl 3 zp s1.2.1,s1.2.2)]]⟩
def qt2 (a0:qq)(d22:Int×(Option (List qm))×Bool)(d:(Int×(Option (List qi))×Bool)):qn×qg:=(.exit 2,⟨[(2,.ptr 0 0,false),(3,.ptr 1 0,false),(23,sl 3 zp a0.tests,false),(24,Lv a0.tests,false),(25,Iv d.1,false),(26,.bool false,false)],[.cells [(.list true 0 [],false),(.list true 0 [],false)],.cells [(sl 2 vsi d22.2.1,d22.2.2),(sl 3 zp d.2.1,d.2.2)]]⟩)
theorem jox (a0:qq)(d22:Int×(Option (List qm))×Bool)(s1:Int×(Option (List qi))×Bool)(r)(h:qry a0 d22 s1=some r):y6 pr qpt (qlv a0 d22) (qt2 a0 d22) s1 r:=by
 unfold qry at h
 rcases jx h with⟨h36,h⟩|⟨h36,h⟩
 ·obtain⟨v37,h38,h⟩:=jw h
  rcases jx h with⟨h39,h⟩|⟨h39,h⟩
  ·obtain⟨v40,h41,h⟩:=jw h
   cases h
   exact zq (by simp only[go_sem,seval,qpt,qlv,h36,jz h38,h39,qdv h41]<;>rfl)
  rcases jx h with⟨h42,h⟩|⟨h42,h⟩
  ·obtain⟨v43,h44,h⟩:=jw h
   cases h
   exact zq (by simp only[go_sem,seval,qpt,qlv,h36,jz h38,h39,h42,qee h44 h42]<;>rfl)
  cases h
 cases h
 exact zd (by simp only[go_sem,seval,qpt,qlv,h36,qt2]<;>rfl)
theorem jlz (a0:qq)(d22:Int×(Option (List qm))×Bool){s1:Int×(Option (List qi))×Bool}{d}(h:itO (qry a0 d22) s1=some d):X pr (.loop qpt) (qlv a0 d22 s1)=some (qt2 a0 d22 d):=km (jox a0 d22) (fun d hh=>by cases hh) h
def f120 (a0:qq):Option qq:=
 jy (itO (qsm a0) (0,none,false)) fun d22=>
 jy (itO (qry a0 d22) (0,none,false)) fun d45=>
 some (⟨d22.2.1,d45.2.1⟩)
theorem jmy {a0:qq}{r}(h:f120 a0=some r):j6 pr (X pr) 120 [.agg [sl 2 vsi a0.needs,sl 3 zp a0.tests]]=some (.agg [sl 2 vsi r.needs,sl 3 zp r.tests],false):=by
 unfold f120 at h
 obtain⟨d22,h23,h⟩:=jw h
 have wh23:=jky a0 h23
 dsimp only[ql5,quj,qd8]at wh23
 obtain⟨d45,h46,h⟩:=jw h
 have wh46:=jlz a0 d22 h46
 dsimp only[qlv,qt2,qd8]at wh46
 obtain rfl:=oi h
 refine zk c120 ?_
 simp only[go_sem,seval,c120,wh23,wh46]
 exact⟨_,rfl⟩
def qwy (a0:qk)(v1:qq)(s0:Int×(Option (List qq))×Bool):Option ((Int×(Option (List qq))×Bool)⊕((Int×(Option (List qq))×Bool))):=
 cond (decide (s0.1<((a0.docs.getD []).length:Int)))
  (jy (zz (a0.docs.getD []) s0.1) fun v20=>
  jy (f120 v20) fun v22=>
  cond s0.2.2
   (jy (apO s0.2.1 [v22]) fun v25=>
   some (.inl (j8 .i64 (s0.1+1),v25,true)))
   (cond s0.2.1.isNone
    (jy (apO s0.2.1 [v22]) fun v28=>
    some (.inl (j8 .i64 (s0.1+1),v28,true)))
    (none)))
  (some (.inr (s0.1,s0.2.1,s0.2.2)))
def qp6 (a0:qk)(v1:qq)(s0:Int×(Option (List qq))×Bool):qg:=⟨[(2,.ptr 0 0,false),(3,.ptr 1 0,false),(13,sl 2 qbi a0.docs,false),(14,Lv a0.docs,false),(15,Iv s0.1,false)],[.cells [(.str [],false),(.list true 0 [],false),(.list true 0 [],false),(.list true 0 [],false)],.cells [(.str a0.name,false),(sl 2 vsi v1.needs,false),(sl 3 zp v1.tests,false),(sl 2 qbi s0.2.1,s0.2.2)]]⟩
def qww (a0:qk)(v1:qq)(d:(Int×(Option (List qq))×Bool)):qn×qg:=(.exit 0,⟨[(2,.ptr 0 0,false),(3,.ptr 1 0,false),(13,sl 2 qbi a0.docs,false),(14,Lv a0.docs,false),(15,Iv d.1,false),(16,.bool false,false)],[.cells [(.str [],false),(.list true 0 [],false),(.list true 0 [],false),(.list true 0 [],false)],.cells [(.str a0.name,false),(sl 2 vsi v1.needs,false),(sl 3 zp v1.tests,false),(sl 2 qbi d.2.1,d.2.2)]]⟩)
theorem jrc (a0:qk)(v1:qq)(s0:Int×(Option (List qq))×Bool)(r)(h:qwy a0 v1 s0=some r):y6 pr qt7 (qp6 a0 v1) (qww a0 v1) s0 r:=by
 unfold qwy at h
 rcases jx h with⟨h19,h⟩|⟨h19,h⟩
 ·obtain⟨v20,h21,h⟩:=jw h
  obtain⟨v22,h23,h⟩:=jw h
  have wh23:=jmy h23
  rcases jx h with⟨h24,h⟩|⟨h24,h⟩
  ·obtain⟨v25,h26,h⟩:=jw h
   cases h
   exact zq (by simp only[go_sem,seval,qt7,qp6,h19,jz h21,wh23,h24,qq4 h26]<;>rfl)
  rcases jx h with⟨h27,h⟩|⟨h27,h⟩
  ·obtain⟨v28,h29,h⟩:=jw h
   cases h
   exact zq (by simp only[go_sem,seval,qt7,qp6,h19,jz h21,wh23,h24,h27,qxw h29 h27]<;>rfl)
  cases h
 cases h
 exact zd (by simp only[go_sem,seval,qt7,qp6,h19,qww]<;>rfl)
theorem jwt (a0:qk)(v1:qq){s0:Int×(Option (List qq))×Bool}{d}(h:itO (qwy a0 v1) s0=some d):X pr (.loop qt7) (qp6 a0 v1 s0)=some (qww a0 v1 d):=km (jrc a0 v1) (fun d hh=>by cases hh) h
def f63 (a0:qk):Option qk:=
 jy (f120 (⟨a0.dn,a0.dt⟩)) fun v1=>
 jy (itO (qwy a0 v1) (0,none,false)) fun d30=>
 some (⟨a0.name,v1.needs,v1.tests,d30.2.1⟩)
theorem W63 {a0:qk}{r}(h:f63 a0=some r):j6 pr (X pr) 63 [.agg [.str a0.name,sl 2 vsi a0.dn,sl 3 zp a0.dt,sl 2 qbi a0.docs]]=some (.agg [.str r.name,sl 2 vsi r.dn,sl 3 zp r.dt,sl 2 qbi r.docs],false):=by
 unfold f63 at h
 obtain⟨v1,h2,h⟩:=jw h
 have wh2:=jmy h2
 obtain⟨d30,h31,h⟩:=jw h
 have wh31:=jwt a0 v1 h31
 dsimp only[qp6,qww,qd8]at wh31
 obtain rfl:=oi h
 refine zk c63 ?_
 simp only[go_sem,seval,c63,wh2,wh31]
 exact⟨_,rfl⟩
def qw5 (a0:qe)(s0:Int×(Option (List qm))×Bool):Option ((Int×(Option (List qm))×Bool)⊕((Int×(Option (List qm))×Bool))):=
 cond (decide (s0.1<((a0.uses.getD []).length:Int)))
  (jy (zz (a0.uses.getD []) s0.1) fun v14=>
  cond s0.2.2
   (jy (apO s0.2.1 [v14]) fun v17=>
   some (.inl (j8 .i64 (s0.1+1),v17,true)))
   (cond s0.2.1.isNone
    (jy (apO s0.2.1 [v14]) fun v20=>
    some (.inl (j8 .i64 (s0.1+1),v20,true)))
    (none)))
  (some (.inr (s0.1,s0.2.1,s0.2.2)))
def qp7 (a0:qe)(s0:Int×(Option (List qm))×Bool):qg:=⟨[(1,.vptr (.agg [.str a0.name,.str a0.product,Iv a0.version,sl 2 vsi a0.uses,sl 3 zp a0.results,.str a0.partner,.bool a0.shipped,Iv a0.complaints]),false),(2,.ptr 0 0,false),(3,.ptr 1 0,false),(22,sl 2 vsi a0.uses,false),(23,Lv a0.uses,false),(24,Iv s0.1,false)],[.cells [(.str [],false),(.str [],false),(Iv 0,false),(.list true 0 [],false),(.list true 0 [],false),(.str [],false),(.bool false,false),(Iv 0,false)],.cells [(.str a0.name,false),(.str a0.product,false),(Iv a0.version,false),(sl 2 vsi s0.2.1,s0.2.2),(.list true 0 [],false),(.str a0.partner,false),(.bool a0.shipped,false),(Iv a0.complaints,false)]]⟩
def qv4 (a0:qe)(d:(Int×(Option (List qm))×Bool)):qn×qg:=(.exit 0,⟨[(1,.vptr (.agg [.str a0.name,.str a0.product,Iv a0.version,sl 2 vsi a0.uses,sl 3 zp a0.results,.str a0.partner,.bool a0.shipped,Iv a0.complaints]),false),(2,.ptr 0 0,false),(3,.ptr 1 0,false),(22,sl 2 vsi a0.uses,false),(23,Lv a0.uses,false),(24,Iv d.1,false),(25,.bool false,false)],[.cells [(.str [],false),(.str [],false),(Iv 0,false),(.list true 0 [],false),(.list true 0 [],false),(.str [],false),(.bool false,false),(Iv 0,false)],.cells [(.str a0.name,false),(.str a0.product,false),(Iv a0.version,false),(sl 2 vsi d.2.1,d.2.2),(.list true 0 [],false),(.str a0.partner,false),(.bool a0.shipped,false),(Iv a0.complaints,false)]]⟩)
theorem jxa (a0:qe)(s0:Int×(Option (List qm))×Bool)(r)(h:qw5 a0 s0=some r):y6 pr qtl (qp7 a0) (qv4 a0) s0 r:=by
 unfold qw5 at h
 rcases jx h with⟨h13,h⟩|⟨h13,h⟩
 ·obtain⟨v14,h15,h⟩:=jw h
  rcases jx h with⟨h16,h⟩|⟨h16,h⟩
  ·obtain⟨v17,h18,h⟩:=jw h
   cases h
   exact zq (by simp only[go_sem,seval,qtl,qp7,h13,jz h15,h16,qc5 h18]<;>rfl)
  rcases jx h with⟨h19,h⟩|⟨h19,h⟩
  ·obtain⟨v20,h21,h⟩:=jw h
   cases h
   exact zq (by simp only[go_sem,seval,qtl,qp7,h13,jz h15,h16,h19,qc4 h21 h19]<;>rfl)
  cases h
 cases h
 exact zd (by simp only[go_sem,seval,qtl,qp7,h13,qv4]<;>rfl)
theorem jw3 (a0:qe){s0:Int×(Option (List qm))×Bool}{d}(h:itO (qw5 a0) s0=some d):X pr (.loop qtl) (qp7 a0 s0)=some (qv4 a0 d):=km (jxa a0) (fun d hh=>by cases hh) h
def qwp (a0:qe)(d22:Int×(Option (List qm))×Bool)(s1:Int×(Option (List qi))×Bool):Option ((Int×(Option (List qi))×Bool)⊕((Int×(Option (List qi))×Bool))):=
 cond (decide (s1.1<((a0.results.getD []).length:Int)))
  (jy (zz (a0.results.getD []) s1.1) fun v37=>
  cond s1.2.2
   (jy (apO s1.2.1 [v37]) fun v40=>
   some (.inl (j8 .i64 (s1.1+1),v40,true)))
   (cond s1.2.1.isNone
    (jy (apO s1.2.1 [v37]) fun v43=>
    some (.inl (j8 .i64 (s1.1+1),v43,true)))
    (none)))
  (some (.inr (s1.1,s1.2.1,s1.2.2)))
def qp8 (a0:qe)(d22:Int×(Option (List qm))×Bool)(s1:Int×(Option (List qi))×Bool):qg:=⟨[(2,.ptr 0 0,false),(3,.ptr 1 0,false),(36,sl 3 zp a0.results,false),(37,Lv a0.results,false),(38,Iv s1.1,false)],[.cells [(.str [],false),(.str [],false),(Iv 0,false),(.list true 0 [],false),(.list true 0 [],false),(.str [],false),(.bool false,false),(Iv 0,false)],.cells [(.str a0.name,false),(.str a0.product,false),(Iv a0.version,false),(sl 2 vsi d22.2.1,d22.2.2),(sl 3 zp s1.2.1,s1.2.2),(.str a0.partner,false),(.bool a0.shipped,false),(Iv a0.complaints,false)]]⟩
def qxa (a0:qe)(d22:Int×(Option (List qm))×Bool)(d:(Int×(Option (List qi))×Bool)):qn×qg:=(.exit 2,⟨[(2,.ptr 0 0,false),(3,.ptr 1 0,false),(36,sl 3 zp a0.results,false),(37,Lv a0.results,false),(38,Iv d.1,false),(39,.bool false,false)],[.cells [(.str [],false),(.str [],false),(Iv 0,false),(.list true 0 [],false),(.list true 0 [],false),(.str [],false),(.bool false,false),(Iv 0,false)],.cells [(.str a0.name,false),(.str a0.product,false),(Iv a0.version,false),(sl 2 vsi d22.2.1,d22.2.2),(sl 3 zp d.2.1,d.2.2),(.str a0.partner,false),(.bool a0.shipped,false),(Iv a0.complaints,false)]]⟩)
theorem jy7 (a0:qe)(d22:Int×(Option (List qm))×Bool)(s1:Int×(Option (List qi))×Bool)(r)(h:qwp a0 d22 s1=some r):y6 pr qui (qp8 a0 d22) (qxa a0 d22) s1 r:=by
 unfold qwp at h
 rcases jx h with⟨h36,h⟩|⟨h36,h⟩
 ·obtain⟨v37,h38,h⟩:=jw h
  rcases jx h with⟨h39,h⟩|⟨h39,h⟩
  ·obtain⟨v40,h41,h⟩:=jw h
   cases h
   exact zq (by simp only[go_sem,seval,qui,qp8,h36,jz h38,h39,qdv h41]<;>rfl)
  rcases jx h with⟨h42,h⟩|⟨h42,h⟩
  ·obtain⟨v43,h44,h⟩:=jw h
   cases h
   exact zq (by simp only[go_sem,seval,qui,qp8,h36,jz h38,h39,h42,qee h44 h42]<;>rfl)
  cases h
 cases h
 exact zd (by simp only[go_sem,seval,qui,qp8,h36,qxa]<;>rfl)
theorem js7 (a0:qe)(d22:Int×(Option (List qm))×Bool){s1:Int×(Option (List qi))×Bool}{d}(h:itO (qwp a0 d22) s1=some d):X pr (.loop qui) (qp8 a0 d22 s1)=some (qxa a0 d22 d):=km (jy7 a0 d22) (fun d hh=>by cases hh) h
def f64 (a0:qe):Option qe:=
 jy (itO (qw5 a0) (0,none,false)) fun d22=>
 jy (itO (qwp a0 d22) (0,none,false)) fun d45=>
 some (⟨a0.name,a0.product,a0.version,d22.2.1,d45.2.1,a0.partner,a0.shipped,a0.complaints⟩)
theorem W64 {a0:qe}{r}(h:f64 a0=some r):j6 pr (X pr) 64 [.agg [.str a0.name,.str a0.product,Iv a0.version,sl 2 vsi a0.uses,sl 3 zp a0.results,.str a0.partner,.bool a0.shipped,Iv a0.complaints]]=some (.agg [.str r.name,.str r.product,Iv r.version,sl 2 vsi r.uses,sl 3 zp r.results,.str r.partner,.bool r.shipped,Iv r.complaints],false):=by
 unfold f64 at h
 obtain⟨d22,h23,h⟩:=jw h
 have wh23:=jw3 a0 h23
 dsimp only[qp7,qv4,qd8]at wh23
 obtain⟨d45,h46,h⟩:=jw h
 have wh46:=js7 a0 d22 h46
 dsimp only[qp8,qxa,qd8]at wh46
 obtain rfl:=oi h
 refine zk c64 ?_
 simp only[go_sem,seval,c64,wh23,wh46]
 exact⟨_,rfl⟩
def qv9 (a0:qc)(s0:Int×(Option (List qj))×Bool):Option ((Int×(Option (List qj))×Bool)⊕((Int×(Option (List qj))×Bool))):=
 cond (decide (s0.1<((a0.lots.getD []).length:Int)))
  (jy (zz (a0.lots.getD []) s0.1) fun v14=>
  cond s0.2.2
   (jy (apO s0.2.1 [v14]) fun v17=>
   some (.inl (j8 .i64 (s0.1+1),v17,true)))
   (cond s0.2.1.isNone
    (jy (apO s0.2.1 [v14]) fun v20=>
    some (.inl (j8 .i64 (s0.1+1),v20,true)))
    (none)))
  (some (.inr (s0.1,s0.2.1,s0.2.2)))
def qos (a0:qc)(s0:Int×(Option (List qj))×Bool):qg:=⟨[(1,.vptr (.agg [Iv a0.day,sl 5 zg a0.lots,sl 4 za a0.products,sl 8 vun a0.units]),false),(2,.ptr 0 0,false),(3,.ptr 1 0,false),(14,sl 5 zg a0.lots,false),(15,Lv a0.lots,false),(16,Iv s0.1,false)],[.cells [(Iv 0,false),(.list true 0 [],false),(.list true 0 [],false),(.list true 0 [],false)],.cells [(Iv a0.day,false),(sl 5 zg s0.2.1,s0.2.2),(.list true 0 [],false),(.list true 0 [],false)]]⟩
def qv3 (a0:qc)(d:(Int×(Option (List qj))×Bool)):qn×qg:=(.exit 0,⟨[(1,.vptr (.agg [Iv a0.day,sl 5 zg a0.lots,sl 4 za a0.products,sl 8 vun a0.units]),false),(2,.ptr 0 0,false),(3,.ptr 1 0,false),(14,sl 5 zg a0.lots,false),(15,Lv a0.lots,false),(16,Iv d.1,false),(17,.bool false,false)],[.cells [(Iv 0,false),(.list true 0 [],false),(.list true 0 [],false),(.list true 0 [],false)],.cells [(Iv a0.day,false),(sl 5 zg d.2.1,d.2.2),(.list true 0 [],false),(.list true 0 [],false)]]⟩)
theorem jxv (a0:qc)(s0:Int×(Option (List qj))×Bool)(r)(h:qv9 a0 s0=some r):y6 pr qt3 (qos a0) (qv3 a0) s0 r:=by
 unfold qv9 at h
 rcases jx h with⟨h13,h⟩|⟨h13,h⟩
 ·obtain⟨v14,h15,h⟩:=jw h
  rcases jx h with⟨h16,h⟩|⟨h16,h⟩
  ·obtain⟨v17,h18,h⟩:=jw h
   cases h
   exact zq (by simp only[go_sem,seval,qt3,qos,h13,jz h15,h16,qih h18]<;>rfl)
  rcases jx h with⟨h19,h⟩|⟨h19,h⟩
  ·obtain⟨v20,h21,h⟩:=jw h
   cases h
   exact zq (by simp only[go_sem,seval,qt3,qos,h13,jz h15,h16,h19,qlh h21 h19]<;>rfl)
  cases h
 cases h
 exact zd (by simp only[go_sem,seval,qt3,qos,h13,qv3]<;>rfl)
theorem jsr (a0:qc){s0:Int×(Option (List qj))×Bool}{d}(h:itO (qv9 a0) s0=some d):X pr (.loop qt3) (qos a0 s0)=some (qv3 a0 d):=km (jxv a0) (fun d hh=>by cases hh) h
def qxl (a0:qc)(d22:Int×(Option (List qj))×Bool)(s1:Int×(Option (List qk))×Bool):Option ((Int×(Option (List qk))×Bool)⊕((Int×(Option (List qk))×Bool))):=
 cond (decide (s1.1<((a0.products.getD []).length:Int)))
  (jy (zz (a0.products.getD []) s1.1) fun v41=>
  jy (f63 v41) fun v43=>
  cond s1.2.2
   (jy (apO s1.2.1 [v43]) fun v46=>
   some (.inl (j8 .i64 (s1.1+1),v46,true)))
   (cond s1.2.1.isNone
    (jy (apO s1.2.1 [v43]) fun v49=>
    some (.inl (j8 .i64 (s1.1+1),v49,true)))
    (none)))
  (some (.inr (s1.1,s1.2.1,s1.2.2)))
def qp4 (a0:qc)(d22:Int×(Option (List qj))×Bool)(s1:Int×(Option (List qk))×Bool):qg:=⟨[(1,.vptr (.agg [Iv a0.day,sl 5 zg a0.lots,sl 4 za a0.products,sl 8 vun a0.units]),false),(2,.ptr 0 0,false),(3,.ptr 1 0,false),(28,sl 4 za a0.products,false),(29,Lv a0.products,false),(30,Iv s1.1,false)],[.cells [(Iv 0,false),(.list true 0 [],false),(.list true 0 [],false),(.list true 0 [],false)],.cells [(Iv a0.day,false),(sl 5 zg d22.2.1,d22.2.2),(sl 4 za s1.2.1,s1.2.2),(.list true 0 [],false)]]⟩
def qwz (a0:qc)(d22:Int×(Option (List qj))×Bool)(d:(Int×(Option (List qk))×Bool)):qn×qg:=(.exit 2,⟨[(1,.vptr (.agg [Iv a0.day,sl 5 zg a0.lots,sl 4 za a0.products,sl 8 vun a0.units]),false),(2,.ptr 0 0,false),(3,.ptr 1 0,false),(28,sl 4 za a0.products,false),(29,Lv a0.products,false),(30,Iv d.1,false),(31,.bool false,false)],[.cells [(Iv 0,false),(.list true 0 [],false),(.list true 0 [],false),(.list true 0 [],false)],.cells [(Iv a0.day,false),(sl 5 zg d22.2.1,d22.2.2),(sl 4 za d.2.1,d.2.2),(.list true 0 [],false)]]⟩)
theorem jyn (a0:qc)(d22:Int×(Option (List qj))×Bool)(s1:Int×(Option (List qk))×Bool)(r)(h:qxl a0 d22 s1=some r):y6 pr qti (qp4 a0 d22) (qwz a0 d22) s1 r:=by
 unfold qxl at h
 rcases jx h with⟨h40,h⟩|⟨h40,h⟩
 ·obtain⟨v41,h42,h⟩:=jw h
  obtain⟨v43,h44,h⟩:=jw h
  have wh44:=W63 h44
  rcases jx h with⟨h45,h⟩|⟨h45,h⟩
  ·obtain⟨v46,h47,h⟩:=jw h
   cases h
   exact zq (by simp only[go_sem,seval,qti,qp4,h40,jz h42,wh44,h45,qob h47]<;>rfl)
  rcases jx h with⟨h48,h⟩|⟨h48,h⟩
  ·obtain⟨v49,h50,h⟩:=jw h
   cases h
   exact zq (by simp only[go_sem,seval,qti,qp4,h40,jz h42,wh44,h45,h48,qu5 h50 h48]<;>rfl)
  cases h
 cases h
 exact zd (by simp only[go_sem,seval,qti,qp4,h40,qwz]<;>rfl)
theorem jva (a0:qc)(d22:Int×(Option (List qj))×Bool){s1:Int×(Option (List qk))×Bool}{d}(h:itO (qxl a0 d22) s1=some d):X pr (.loop qti) (qp4 a0 d22 s1)=some (qwz a0 d22 d):=km (jyn a0 d22) (fun d hh=>by cases hh) h
def qw7 (a0:qc)(d22:Int×(Option (List qj))×Bool)(d51:Int×(Option (List qk))×Bool)(s2:Int×(Option (List qe))×Bool):Option ((Int×(Option (List qe))×Bool)⊕((Int×(Option (List qe))×Bool))):=
 cond (decide (s2.1<((a0.units.getD []).length:Int)))
  (jy (zz (a0.units.getD []) s2.1) fun v70=>
  jy (f64 v70) fun v72=>
  cond s2.2.2
   (jy (apO s2.2.1 [v72]) fun v75=>
   some (.inl (j8 .i64 (s2.1+1),v75,true)))
   (cond s2.2.1.isNone
    (jy (apO s2.2.1 [v72]) fun v78=>
    some (.inl (j8 .i64 (s2.1+1),v78,true)))
    (none)))
  (some (.inr (s2.1,s2.2.1,s2.2.2)))
def qp1 (a0:qc)(d22:Int×(Option (List qj))×Bool)(d51:Int×(Option (List qk))×Bool)(s2:Int×(Option (List qe))×Bool):qg:=⟨[(2,.ptr 0 0,false),(3,.ptr 1 0,false),(43,sl 8 vun a0.units,false),(44,Lv a0.units,false),(45,Iv s2.1,false)],[.cells [(Iv 0,false),(.list true 0 [],false),(.list true 0 [],false),(.list true 0 [],false)],.cells [(Iv a0.day,false),(sl 5 zg d22.2.1,d22.2.2),(sl 4 za d51.2.1,d51.2.2),(sl 8 vun s2.2.1,s2.2.2)]]⟩
def qv0 (a0:qc)(d22:Int×(Option (List qj))×Bool)(d51:Int×(Option (List qk))×Bool)(d:(Int×(Option (List qe))×Bool)):qn×qg:=(.exit 4,⟨[(2,.ptr 0 0,false),(3,.ptr 1 0,false),(43,sl 8 vun a0.units,false),(44,Lv a0.units,false),(45,Iv d.1,false),(46,.bool false,false)],[.cells [(Iv 0,false),(.list true 0 [],false),(.list true 0 [],false),(.list true 0 [],false)],.cells [(Iv a0.day,false),(sl 5 zg d22.2.1,d22.2.2),(sl 4 za d51.2.1,d51.2.2),(sl 8 vun d.2.1,d.2.2)]]⟩)
theorem jq4 (a0:qc)(d22:Int×(Option (List qj))×Bool)(d51:Int×(Option (List qk))×Bool)(s2:Int×(Option (List qe))×Bool)(r)(h:qw7 a0 d22 d51 s2=some r):y6 pr qta (qp1 a0 d22 d51) (qv0 a0 d22 d51) s2 r:=by
 unfold qw7 at h
 rcases jx h with⟨h69,h⟩|⟨h69,h⟩
 ·obtain⟨v70,h71,h⟩:=jw h
  obtain⟨v72,h73,h⟩:=jw h
  have wh73:=W64 h73
  rcases jx h with⟨h74,h⟩|⟨h74,h⟩
  ·obtain⟨v75,h76,h⟩:=jw h
   cases h
   exact zq (by simp only[go_sem,seval,qta,qp1,h69,jz h71,wh73,h74,qss h76]<;>rfl)
  rcases jx h with⟨h77,h⟩|⟨h77,h⟩
  ·obtain⟨v78,h79,h⟩:=jw h
   cases h
   exact zq (by simp only[go_sem,seval,qta,qp1,h69,jz h71,wh73,h74,h77,qz4 h79 h77]<;>rfl)
  cases h
 cases h
 exact zd (by simp only[go_sem,seval,qta,qp1,h69,qv0]<;>rfl)
theorem ju7 (a0:qc)(d22:Int×(Option (List qj))×Bool)(d51:Int×(Option (List qk))×Bool){s2:Int×(Option (List qe))×Bool}{d}(h:itO (qw7 a0 d22 d51) s2=some d):X pr (.loop qta) (qp1 a0 d22 d51 s2)=some (qv0 a0 d22 d51 d):=km (jq4 a0 d22 d51) (fun d hh=>by cases hh) h
def f14 (a0:qc):Option qc:=
 jy (itO (qv9 a0) (0,none,false)) fun d22=>
 jy (itO (qxl a0 d22) (0,none,false)) fun d51=>
 jy (itO (qw7 a0 d22 d51) (0,none,false)) fun d80=>
 some (⟨a0.day,d22.2.1,d51.2.1,d80.2.1⟩)
theorem W14 {a0:qc}{r}(h:f14 a0=some r):j6 pr (X pr) 14 [.agg [Iv a0.day,sl 5 zg a0.lots,sl 4 za a0.products,sl 8 vun a0.units]]=some (.agg [Iv r.day,sl 5 zg r.lots,sl 4 za r.products,sl 8 vun r.units],false):=by
 unfold f14 at h
 obtain⟨d22,h23,h⟩:=jw h
 have wh23:=jsr a0 h23
 dsimp only[qos,qv3,qd8]at wh23
 obtain⟨d51,h52,h⟩:=jw h
 have wh52:=jva a0 d22 h52
 dsimp only[qp4,qwz,qd8]at wh52
 obtain⟨d80,h81,h⟩:=jw h
 have wh81:=ju7 a0 d22 d51 h81
 dsimp only[qp1,qv0,qd8]at wh81
 obtain rfl:=oi h
 refine zk c14 ?_
 simp only[go_sem,seval,c14,wh23,wh52,wh81]
 exact⟨_,rfl⟩
end Go.Z
namespace Go.Z
open Go Go.Abs Go.W
def f59 (a0:Int)(a1:Int)(a2:Int):Option Bool:=
 cond (decide (a0<a1))
  (some true)
  (some (decide (a2<a0)))
theorem W59 {a0:Int}{a1:Int}{a2:Int}{r}(h:f59 a0 a1 a2=some r):j6 pr (X pr) 59 [Iv a0,Iv a1,Iv a2]=some (.bool r,false):=by
 unfold f59 at h
 rcases jx h with⟨h1,h⟩|⟨h1,h⟩
 ·obtain rfl:=oi h
  refine zk c59 ?_
  simp only[go_sem,seval,c59,h1]
  exact⟨_,rfl⟩
 obtain rfl:=oi h
 refine zk c59 ?_
 simp only[go_sem,seval,c59,h1]
 exact⟨_,rfl⟩
end Go.Z
end
