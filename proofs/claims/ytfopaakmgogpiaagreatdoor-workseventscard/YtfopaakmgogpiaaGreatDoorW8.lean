/- Chapter 10. -/
import Derived.Test.YtfopaakmgogpiaaGreatDoorW4
import Derived.Test.YtfopaakmgogpiaaGreatDoorAbsL
set_option linter.unusedVariables false
set_option linter.unusedSimpArgs false
set_option maxRecDepth 100000
set_option maxHeartbeats 4000000
noncomputable section
namespace Go.Z
open Go Go.Abs Go.W
def qnb (a0:qq)(a1:qq)(s0:Int):Option (Int⊕(Unit⊕Int)):=
 cond (decide (s0<((a0.needs.getD []).length:Int)))
  (jy (zz (a0.needs.getD []) s0) fun v16=>
  jy (zz (a1.needs.getD []) s0) fun v18=>
  cond (decide (v16.k=v18.k)&&decide (v16.n=v18.n))
   (some (.inl (j8 .i64 (s0+1))))
   (some (.inr (.inl ()))))
  (some (.inr (.inr s0)))
def qj0 (a0:qq)(a1:qq)(s0:Int):qg:=⟨[(2,.vptr (.agg [sl 2 vsi a0.needs,sl 3 zp a0.tests]),false),(3,.vptr (.agg [sl 2 vsi a1.needs,sl 3 zp a1.tests]),false),(5,Iv s0,false)],[]⟩
def qlw (a0:qq)(a1:qq):Unit⊕Int→qn×qg
 | .inl d=>(.ret,⟨[(4,.bool false,false)],[]⟩)
 | .inr d=>(.exit 0,⟨[(2,.vptr (.agg [sl 2 vsi a0.needs,sl 3 zp a0.tests]),false),(3,.vptr (.agg [sl 2 vsi a1.needs,sl 3 zp a1.tests]),false),(5,Iv d,false),(27,.bool false,false)],[]⟩)
theorem jj4 (a0:qq)(a1:qq)(s0:Int)(r)(h:qnb a0 a1 s0=some r):y6 pr qpe (qj0 a0 a1) (qlw a0 a1) s0 r:=by
 unfold qnb at h
 rcases jx h with⟨h15,h⟩|⟨h15,h⟩
 ·obtain⟨v16,h17,h⟩:=jw h
  obtain⟨v18,h19,h⟩:=jw h
  rcases jx h with⟨h20,h⟩|⟨h20,h⟩
  ·cases h
   exact zq (by simp only[go_sem,seval,qpe,qj0,h15,jz h17,jz h19,h20]<;>rfl)
  cases h
  exact zd (by simp only[go_sem,seval,qpe,qj0,h15,jz h17,jz h19,h20,qlw]<;>rfl)
 cases h
 exact zd (by simp only[go_sem,seval,qpe,qj0,h15,qlw]<;>rfl)
theorem jas (a0:qq)(a1:qq){s0:Int}{d}(h:itO (qnb a0 a1) s0=some d):X pr (.loop qpe) (qj0 a0 a1 s0)=some (qlw a0 a1 d):=km (jj4 a0 a1) (fun d=>by rcases d with d|d<;>(intro hh;cases hh)) h
def qnd (a0:qq)(a1:qq)(s1:Int):Option (Int⊕(Unit⊕Int)):=
 cond (decide (s1<((a0.tests.getD []).length:Int)))
  (jy (zz (a0.tests.getD []) s1) fun v38=>
  jy (zz (a1.tests.getD []) s1) fun v40=>
  cond (decide (v38.k=v40.k)&&decide (v38.a=v40.a)&&decide (v38.b=v40.b))
   (some (.inl (j8 .i64 (s1+1))))
   (some (.inr (.inl ()))))
  (some (.inr (.inr s1)))
def qi7 (a0:qq)(a1:qq)(s1:Int):qg:=⟨[(2,.vptr (.agg [sl 2 vsi a0.needs,sl 3 zp a0.tests]),false),(3,.vptr (.agg [sl 2 vsi a1.needs,sl 3 zp a1.tests]),false),(6,Iv s1,false)],[]⟩
def ql4 (a0:qq)(a1:qq):Unit⊕Int→qn×qg
 | .inl d=>(.ret,⟨[(4,.bool false,false)],[]⟩)
 | .inr d=>(.exit 2,⟨[(2,.vptr (.agg [sl 2 vsi a0.needs,sl 3 zp a0.tests]),false),(3,.vptr (.agg [sl 2 vsi a1.needs,sl 3 zp a1.tests]),false),(6,Iv d,false),(45,.bool false,false)],[]⟩)
theorem jkl (a0:qq)(a1:qq)(s1:Int)(r)(h:qnd a0 a1 s1=some r):y6 pr qqa (qi7 a0 a1) (ql4 a0 a1) s1 r:=by
 unfold qnd at h
 rcases jx h with⟨h37,h⟩|⟨h37,h⟩
 ·obtain⟨v38,h39,h⟩:=jw h
  obtain⟨v40,h41,h⟩:=jw h
  rcases jx h with⟨h42,h⟩|⟨h42,h⟩
  ·cases h
   exact zq (by simp only[go_sem,seval,qqa,qi7,h37,jz h39,jz h41,h42]<;>rfl)
  cases h
  exact zd (by simp only[go_sem,seval,qqa,qi7,h37,jz h39,jz h41,h42,ql4]<;>rfl)
 cases h
 exact zd (by simp only[go_sem,seval,qqa,qi7,h37,ql4]<;>rfl)
theorem jab (a0:qq)(a1:qq){s1:Int}{d}(h:itO (qnd a0 a1) s1=some d):X pr (.loop qqa) (qi7 a0 a1 s1)=some (ql4 a0 a1 d):=km (jkl a0 a1) (fun d=>by rcases d with d|d<;>(intro hh;cases hh)) h
def f119 (a0:qq)(a1:qq):Option Bool:=
 cond (decide (((a0.needs.getD []).length:Int)=((a1.needs.getD []).length:Int)))
  (cond (decide (((a0.tests.getD []).length:Int)=((a1.tests.getD []).length:Int)))
   (jy (itO (qnb a0 a1) 0) fun d21=>match d21 with
    | .inl d23=>
     some false
    | .inr d24=>
     jy (itO (qnd a0 a1) 0) fun d43=>match d43 with
      | .inl d45=>
       some false
      | .inr d46=>
       some true)
   (some false))
  (some false)
theorem jnq {a0:qq}{a1:qq}{r}(h:f119 a0 a1=some r):j6 pr (X pr) 119 [.agg [sl 2 vsi a0.needs,sl 3 zp a0.tests],.agg [sl 2 vsi a1.needs,sl 3 zp a1.tests]]=some (.bool r,false):=by
 unfold f119 at h
 rcases jx h with⟨h1,h⟩|⟨h1,h⟩
 ·rcases jx h with⟨h2,h⟩|⟨h2,h⟩
  ·obtain⟨d21,h22,h⟩:=jw h
   rcases d21 with d23|d24
   ·have wh22:=jas a0 a1 h22
    dsimp only[qj0,qlw]at wh22
    obtain rfl:=oi h
    refine zk c119 ?_
    simp only[go_sem,seval,c119,h1,h2,wh22]
    exact⟨_,rfl⟩
   have wh22:=jas a0 a1 h22
   dsimp only[qj0,qlw]at wh22
   obtain⟨d43,h44,h⟩:=jw h
   rcases d43 with d45|d46
   ·have wh44:=jab a0 a1 h44
    dsimp only[qi7,ql4]at wh44
    obtain rfl:=oi h
    refine zk c119 ?_
    simp only[go_sem,seval,c119,h1,h2,wh22,wh44]
    exact⟨_,rfl⟩
   have wh44:=jab a0 a1 h44
   dsimp only[qi7,ql4]at wh44
   obtain rfl:=oi h
   refine zk c119 ?_
   simp only[go_sem,seval,c119,h1,h2,wh22,wh44]
   exact⟨_,rfl⟩
  obtain rfl:=oi h
  refine zk c119 ?_
  simp only[go_sem,seval,c119,h1,h2]
  exact⟨_,rfl⟩
 obtain rfl:=oi h
 refine zk c119 ?_
 simp only[go_sem,seval,c119,h1]
 exact⟨_,rfl⟩
def qre (a0:qk)(a1:qk)(s0:Int):Option (Int⊕(Unit⊕Int)):=
 cond (decide (s0<((a0.docs.getD []).length:Int)))
  (jy (zz (a0.docs.getD []) s0) fun v23=>
  jy (zz (a1.docs.getD []) s0) fun v25=>
  jy (f119 v23 v25) fun v27=>
  cond v27
   (some (.inl (j8 .i64 (s0+1))))
   (some (.inr (.inl ()))))
  (some (.inr (.inr s0)))
def qm6 (a0:qk)(a1:qk)(s0:Int):qg:=⟨[(2,.vptr (.agg [.str a0.name,sl 2 vsi a0.dn,sl 3 zp a0.dt,sl 2 qbi a0.docs]),false),(3,.vptr (.agg [.str a1.name,sl 2 vsi a1.dn,sl 3 zp a1.dt,sl 2 qbi a1.docs]),false),(5,Iv s0,false)],[]⟩
def qou (a0:qk)(a1:qk):Unit⊕Int→qn×qg
 | .inl d=>(.ret,⟨[(4,.bool false,false)],[]⟩)
 | .inr d=>(.exit 0,⟨[(2,.vptr (.agg [.str a0.name,sl 2 vsi a0.dn,sl 3 zp a0.dt,sl 2 qbi a0.docs]),false),(3,.vptr (.agg [.str a1.name,sl 2 vsi a1.dn,sl 3 zp a1.dt,sl 2 qbi a1.docs]),false),(5,Iv d,false),(32,.bool false,false)],[]⟩)
theorem jv9 (a0:qk)(a1:qk)(s0:Int)(r)(h:qre a0 a1 s0=some r):y6 pr qt6 (qm6 a0 a1) (qou a0 a1) s0 r:=by
 unfold qre at h
 rcases jx h with⟨h22,h⟩|⟨h22,h⟩
 ·obtain⟨v23,h24,h⟩:=jw h
  obtain⟨v25,h26,h⟩:=jw h
  obtain⟨v27,h28,h⟩:=jw h
  have wh28:=jnq h28
  rcases jx h with⟨h29,h⟩|⟨h29,h⟩
  ·cases h
   exact zq (by simp only[go_sem,seval,qt6,qm6,h22,jz h24,jz h26,wh28,h29]<;>rfl)
  cases h
  exact zd (by simp only[go_sem,seval,qt6,qm6,h22,jz h24,jz h26,wh28,h29,qou]<;>rfl)
 cases h
 exact zd (by simp only[go_sem,seval,qt6,qm6,h22,qou]<;>rfl)
theorem jgl (a0:qk)(a1:qk){s0:Int}{d}(h:itO (qre a0 a1) s0=some d):X pr (.loop qt6) (qm6 a0 a1 s0)=some (qou a0 a1 d):=km (jv9 a0 a1) (fun d=>by rcases d with d|d<;>(intro hh;cases hh)) h
def f61 (a0:qk)(a1:qk):Option Bool:=
 cond (decide (a0.name=a1.name))
  (jy (f119 (⟨a0.dn,a0.dt⟩) (⟨a1.dn,a1.dt⟩)) fun v2=>
  cond v2
   (cond (decide (((a0.docs.getD []).length:Int)=((a1.docs.getD []).length:Int)))
    (jy (itO (qre a0 a1) 0) fun d30=>match d30 with
     | .inl d32=>
      some false
     | .inr d33=>
      some true)
    (some false))
   (some false))
  (some false)
theorem W61 {a0:qk}{a1:qk}{r}(h:f61 a0 a1=some r):j6 pr (X pr) 61 [.agg [.str a0.name,sl 2 vsi a0.dn,sl 3 zp a0.dt,sl 2 qbi a0.docs],.agg [.str a1.name,sl 2 vsi a1.dn,sl 3 zp a1.dt,sl 2 qbi a1.docs]]=some (.bool r,false):=by
 unfold f61 at h
 rcases jx h with⟨h1,h⟩|⟨h1,h⟩
 ·obtain⟨v2,h3,h⟩:=jw h
  have wh3:=jnq h3
  rcases jx h with⟨h4,h⟩|⟨h4,h⟩
  ·rcases jx h with⟨h5,h⟩|⟨h5,h⟩
   ·obtain⟨d30,h31,h⟩:=jw h
    rcases d30 with d32|d33
    ·have wh31:=jgl a0 a1 h31
     dsimp only[qm6,qou]at wh31
     obtain rfl:=oi h
     refine zk c61 ?_
     simp only[go_sem,seval,c61,h1,wh3,h4,h5,wh31]
     exact⟨_,rfl⟩
    have wh31:=jgl a0 a1 h31
    dsimp only[qm6,qou]at wh31
    obtain rfl:=oi h
    refine zk c61 ?_
    simp only[go_sem,seval,c61,h1,wh3,h4,h5,wh31]
    exact⟨_,rfl⟩
   obtain rfl:=oi h
   refine zk c61 ?_
   simp only[go_sem,seval,c61,h1,wh3,h4,h5]
   exact⟨_,rfl⟩
  obtain rfl:=oi h
  refine zk c61 ?_
  simp only[go_sem,seval,c61,h1,wh3,h4]
  exact⟨_,rfl⟩
 obtain rfl:=oi h
 refine zk c61 ?_
 simp only[go_sem,seval,c61,h1]
 exact⟨_,rfl⟩
def qqx (a0:qe)(a1:qe)(s0:Int):Option (Int⊕(Unit⊕Int)):=
 cond (decide (s0<((a0.uses.getD []).length:Int)))
  (jy (zz (a0.uses.getD []) s0) fun v22=>
  jy (zz (a1.uses.getD []) s0) fun v24=>
  cond (decide (v22.k=v24.k)&&decide (v22.n=v24.n))
   (some (.inl (j8 .i64 (s0+1))))
   (some (.inr (.inl ()))))
  (some (.inr (.inr s0)))
def qm1 (a0:qe)(a1:qe)(s0:Int):qg:=⟨[(2,.vptr (.agg [.str a0.name,.str a0.product,Iv a0.version,sl 2 vsi a0.uses,sl 3 zp a0.results,.str a0.partner,.bool a0.shipped,Iv a0.complaints]),false),(3,.vptr (.agg [.str a1.name,.str a1.product,Iv a1.version,sl 2 vsi a1.uses,sl 3 zp a1.results,.str a1.partner,.bool a1.shipped,Iv a1.complaints]),false),(5,Iv s0,false)],[]⟩
def qpu (a0:qe)(a1:qe):Unit⊕Int→qn×qg
 | .inl d=>(.ret,⟨[(4,.bool false,false)],[]⟩)
 | .inr d=>(.exit 0,⟨[(2,.vptr (.agg [.str a0.name,.str a0.product,Iv a0.version,sl 2 vsi a0.uses,sl 3 zp a0.results,.str a0.partner,.bool a0.shipped,Iv a0.complaints]),false),(3,.vptr (.agg [.str a1.name,.str a1.product,Iv a1.version,sl 2 vsi a1.uses,sl 3 zp a1.results,.str a1.partner,.bool a1.shipped,Iv a1.complaints]),false),(5,Iv d,false),(69,.bool false,false)],[]⟩)
theorem jvy (a0:qe)(a1:qe)(s0:Int)(r)(h:qqx a0 a1 s0=some r):y6 pr qt8 (qm1 a0 a1) (qpu a0 a1) s0 r:=by
 unfold qqx at h
 rcases jx h with⟨h21,h⟩|⟨h21,h⟩
 ·obtain⟨v22,h23,h⟩:=jw h
  obtain⟨v24,h25,h⟩:=jw h
  rcases jx h with⟨h26,h⟩|⟨h26,h⟩
  ·cases h
   exact zq (by simp only[go_sem,seval,qt8,qm1,h21,jz h23,jz h25,h26]<;>rfl)
  cases h
  exact zd (by simp only[go_sem,seval,qt8,qm1,h21,jz h23,jz h25,h26,qpu]<;>rfl)
 cases h
 exact zd (by simp only[go_sem,seval,qt8,qm1,h21,qpu]<;>rfl)
theorem jgd (a0:qe)(a1:qe){s0:Int}{d}(h:itO (qqx a0 a1) s0=some d):X pr (.loop qt8) (qm1 a0 a1 s0)=some (qpu a0 a1 d):=km (jvy a0 a1) (fun d=>by rcases d with d|d<;>(intro hh;cases hh)) h
def qqg (a0:qe)(a1:qe)(s1:Int):Option (Int⊕(Unit⊕Int)):=
 cond (decide (s1<((a0.results.getD []).length:Int)))
  (jy (zz (a0.results.getD []) s1) fun v44=>
  jy (zz (a1.results.getD []) s1) fun v46=>
  cond (decide (v44.k=v46.k)&&decide (v44.a=v46.a)&&decide (v44.b=v46.b))
   (some (.inl (j8 .i64 (s1+1))))
   (some (.inr (.inl ()))))
  (some (.inr (.inr s1)))
def qmh (a0:qe)(a1:qe)(s1:Int):qg:=⟨[(2,.vptr (.agg [.str a0.name,.str a0.product,Iv a0.version,sl 2 vsi a0.uses,sl 3 zp a0.results,.str a0.partner,.bool a0.shipped,Iv a0.complaints]),false),(3,.vptr (.agg [.str a1.name,.str a1.product,Iv a1.version,sl 2 vsi a1.uses,sl 3 zp a1.results,.str a1.partner,.bool a1.shipped,Iv a1.complaints]),false),(6,Iv s1,false)],[]⟩
def qoy (a0:qe)(a1:qe):Unit⊕Int→qn×qg
 | .inl d=>(.ret,⟨[(4,.bool false,false)],[]⟩)
 | .inr d=>(.exit 2,⟨[(2,.vptr (.agg [.str a0.name,.str a0.product,Iv a0.version,sl 2 vsi a0.uses,sl 3 zp a0.results,.str a0.partner,.bool a0.shipped,Iv a0.complaints]),false),(3,.vptr (.agg [.str a1.name,.str a1.product,Iv a1.version,sl 2 vsi a1.uses,sl 3 zp a1.results,.str a1.partner,.bool a1.shipped,Iv a1.complaints]),false),(6,Iv d,false),(87,.bool false,false)],[]⟩)
theorem jvp (a0:qe)(a1:qe)(s1:Int)(r)(h:qqg a0 a1 s1=some r):y6 pr qul (qmh a0 a1) (qoy a0 a1) s1 r:=by
 unfold qqg at h
 rcases jx h with⟨h43,h⟩|⟨h43,h⟩
 ·obtain⟨v44,h45,h⟩:=jw h
  obtain⟨v46,h47,h⟩:=jw h
  rcases jx h with⟨h48,h⟩|⟨h48,h⟩
  ·cases h
   exact zq (by simp only[go_sem,seval,qul,qmh,h43,jz h45,jz h47,h48]<;>rfl)
  cases h
  exact zd (by simp only[go_sem,seval,qul,qmh,h43,jz h45,jz h47,h48,qoy]<;>rfl)
 cases h
 exact zd (by simp only[go_sem,seval,qul,qmh,h43,qoy]<;>rfl)
theorem jgs (a0:qe)(a1:qe){s1:Int}{d}(h:itO (qqg a0 a1) s1=some d):X pr (.loop qul) (qmh a0 a1 s1)=some (qoy a0 a1 d):=km (jvp a0 a1) (fun d=>by rcases d with d|d<;>(intro hh;cases hh)) h
def f62 (a0:qe)(a1:qe):Option Bool:=
 cond (decide (a0.name=a1.name))
  (cond (decide (a0.product=a1.product))
   (cond (decide (a0.version=a1.version))
    (cond (decide (a0.partner=a1.partner))
     (cond (a0.shipped == a1.shipped)
      (cond (decide (a0.complaints=a1.complaints))
       (cond (decide (((a0.uses.getD []).length:Int)=((a1.uses.getD []).length:Int)))
        (cond (decide (((a0.results.getD []).length:Int)=((a1.results.getD []).length:Int)))
         (jy (itO (qqx a0 a1) 0) fun d27=>match d27 with
          | .inl d29=>
           some false
          | .inr d30=>
           jy (itO (qqg a0 a1) 0) fun d49=>match d49 with
            | .inl d51=>
             some false
            | .inr d52=>
             some true)
         (some false))
        (some false))
       (some false))
      (some false))
     (some false))
    (some false))
   (some false))
  (some false)
theorem W62 {a0:qe}{a1:qe}{r}(h:f62 a0 a1=some r):j6 pr (X pr) 62 [.agg [.str a0.name,.str a0.product,Iv a0.version,sl 2 vsi a0.uses,sl 3 zp a0.results,.str a0.partner,.bool a0.shipped,Iv a0.complaints],.agg [.str a1.name,.str a1.product,Iv a1.version,sl 2 vsi a1.uses,sl 3 zp a1.results,.str a1.partner,.bool a1.shipped,Iv a1.complaints]]=some (.bool r,false):=by
 unfold f62 at h
 rcases jx h with⟨h1,h⟩|⟨h1,h⟩
 ·rcases jx h with⟨h2,h⟩|⟨h2,h⟩
  ·rcases jx h with⟨h3,h⟩|⟨h3,h⟩
   ·rcases jx h with⟨h4,h⟩|⟨h4,h⟩
    ·rcases jx h with⟨h5,h⟩|⟨h5,h⟩
     ·rcases jx h with⟨h6,h⟩|⟨h6,h⟩
      ·rcases jx h with⟨h7,h⟩|⟨h7,h⟩
       ·rcases jx h with⟨h8,h⟩|⟨h8,h⟩
        ·obtain⟨d27,h28,h⟩:=jw h
         rcases d27 with d29|d30
         ·have wh28:=jgd a0 a1 h28
          dsimp only[qm1,qpu]at wh28
          obtain rfl:=oi h
          refine zk c62 ?_
          simp only[go_sem,seval,c62,h1,h2,h3,h4,h5,h6,h7,h8,wh28]
          exact⟨_,rfl⟩
         have wh28:=jgd a0 a1 h28
         dsimp only[qm1,qpu]at wh28
         obtain⟨d49,h50,h⟩:=jw h
         rcases d49 with d51|d52
         ·have wh50:=jgs a0 a1 h50
          dsimp only[qmh,qoy]at wh50
          obtain rfl:=oi h
          refine zk c62 ?_
          simp only[go_sem,seval,c62,h1,h2,h3,h4,h5,h6,h7,h8,wh28,wh50]
          exact⟨_,rfl⟩
         have wh50:=jgs a0 a1 h50
         dsimp only[qmh,qoy]at wh50
         obtain rfl:=oi h
         refine zk c62 ?_
         simp only[go_sem,seval,c62,h1,h2,h3,h4,h5,h6,h7,h8,wh28,wh50]
         exact⟨_,rfl⟩
        obtain rfl:=oi h
        refine zk c62 ?_
        simp only[go_sem,seval,c62,h1,h2,h3,h4,h5,h6,h7,h8]
        exact⟨_,rfl⟩
       obtain rfl:=oi h
       refine zk c62 ?_
       simp only[go_sem,seval,c62,h1,h2,h3,h4,h5,h6,h7]
       exact⟨_,rfl⟩
      obtain rfl:=oi h
      refine zk c62 ?_
      simp only[go_sem,seval,c62,h1,h2,h3,h4,h5,h6]
      exact⟨_,rfl⟩
     obtain rfl:=oi h
     refine zk c62 ?_
     simp only[go_sem,seval,c62,h1,h2,h3,h4,h5]
     exact⟨_,rfl⟩
    obtain rfl:=oi h
    refine zk c62 ?_
    simp only[go_sem,seval,c62,h1,h2,h3,h4]
    exact⟨_,rfl⟩
   obtain rfl:=oi h
   refine zk c62 ?_
   simp only[go_sem,seval,c62,h1,h2,h3]
   exact⟨_,rfl⟩
  obtain rfl:=oi h
  refine zk c62 ?_
  simp only[go_sem,seval,c62,h1,h2]
  exact⟨_,rfl⟩
 obtain rfl:=oi h
 refine zk c62 ?_
 simp only[go_sem,seval,c62,h1]
 exact⟨_,rfl⟩
def qqd (a0:qc)(a1:qc)(s0:Int):Option (Int⊕(Unit⊕Int)):=
 cond (decide (s0<((a0.lots.getD []).length:Int)))
  (jy (zz (a0.lots.getD []) s0) fun v18=>
  jy (zz (a1.lots.getD []) s0) fun v20=>
  cond (decide (v18.name=v20.name)&&decide (v18.kind=v20.kind)&&decide (v18.count=v20.count)&&decide (v18.left=v20.left)&&decide (v18.held=v20.held))
   (some (.inl (j8 .i64 (s0+1))))
   (some (.inr (.inl ()))))
  (some (.inr (.inr s0)))
def qmx (a0:qc)(a1:qc)(s0:Int):qg:=⟨[(2,.vptr (.agg [Iv a0.day,sl 5 zg a0.lots,sl 4 za a0.products,sl 8 vun a0.units]),false),(3,.vptr (.agg [Iv a1.day,sl 5 zg a1.lots,sl 4 za a1.products,sl 8 vun a1.units]),false),(5,Iv s0,false)],[]⟩
def qow (a0:qc)(a1:qc):Unit⊕Int→qn×qg
 | .inl d=>(.ret,⟨[(4,.bool false,false)],[]⟩)
 | .inr d=>(.exit 0,⟨[(2,.vptr (.agg [Iv a0.day,sl 5 zg a0.lots,sl 4 za a0.products,sl 8 vun a0.units]),false),(3,.vptr (.agg [Iv a1.day,sl 5 zg a1.lots,sl 4 za a1.products,sl 8 vun a1.units]),false),(5,Iv d,false),(44,.bool false,false)],[]⟩)
theorem jr7 (a0:qc)(a1:qc)(s0:Int)(r)(h:qqd a0 a1 s0=some r):y6 pr qte (qmx a0 a1) (qow a0 a1) s0 r:=by
 unfold qqd at h
 rcases jx h with⟨h17,h⟩|⟨h17,h⟩
 ·obtain⟨v18,h19,h⟩:=jw h
  obtain⟨v20,h21,h⟩:=jw h
  rcases jx h with⟨h22,h⟩|⟨h22,h⟩
  ·cases h
   exact zq (by simp only[go_sem,seval,qte,qmx,h17,jz h19,jz h21,h22]<;>rfl)
  cases h
  exact zd (by simp only[go_sem,seval,qte,qmx,h17,jz h19,jz h21,h22,qow]<;>rfl)
 cases h
 exact zd (by simp only[go_sem,seval,qte,qmx,h17,qow]<;>rfl)
theorem jf3 (a0:qc)(a1:qc){s0:Int}{d}(h:itO (qqd a0 a1) s0=some d):X pr (.loop qte) (qmx a0 a1 s0)=some (qow a0 a1 d):=km (jr7 a0 a1) (fun d=>by rcases d with d|d<;>(intro hh;cases hh)) h
def qql (a0:qc)(a1:qc)(s1:Int):Option (Int⊕(Unit⊕Int)):=
 cond (decide (s1<((a0.products.getD []).length:Int)))
  (jy (zz (a0.products.getD []) s1) fun v44=>
  jy (zz (a1.products.getD []) s1) fun v46=>
  jy (f61 v44 v46) fun v48=>
  cond v48
   (some (.inl (j8 .i64 (s1+1))))
   (some (.inr (.inl ()))))
  (some (.inr (.inr s1)))
def qmk (a0:qc)(a1:qc)(s1:Int):qg:=⟨[(2,.vptr (.agg [Iv a0.day,sl 5 zg a0.lots,sl 4 za a0.products,sl 8 vun a0.units]),false),(3,.vptr (.agg [Iv a1.day,sl 5 zg a1.lots,sl 4 za a1.products,sl 8 vun a1.units]),false),(6,Iv s1,false)],[]⟩
def qpi (a0:qc)(a1:qc):Unit⊕Int→qn×qg
 | .inl d=>(.ret,⟨[(4,.bool false,false)],[]⟩)
 | .inr d=>(.exit 2,⟨[(2,.vptr (.agg [Iv a0.day,sl 5 zg a0.lots,sl 4 za a0.products,sl 8 vun a0.units]),false),(3,.vptr (.agg [Iv a1.day,sl 5 zg a1.lots,sl 4 za a1.products,sl 8 vun a1.units]),false),(6,Iv d,false),(62,.bool false,false)],[]⟩)
theorem jwc (a0:qc)(a1:qc)(s1:Int)(r)(h:qql a0 a1 s1=some r):y6 pr qtu (qmk a0 a1) (qpi a0 a1) s1 r:=by
 unfold qql at h
 rcases jx h with⟨h43,h⟩|⟨h43,h⟩
 ·obtain⟨v44,h45,h⟩:=jw h
  obtain⟨v46,h47,h⟩:=jw h
  obtain⟨v48,h49,h⟩:=jw h
  have wh49:=W61 h49
  rcases jx h with⟨h50,h⟩|⟨h50,h⟩
  ·cases h
   exact zq (by simp only[go_sem,seval,qtu,qmk,h43,jz h45,jz h47,wh49,h50]<;>rfl)
  cases h
  exact zd (by simp only[go_sem,seval,qtu,qmk,h43,jz h45,jz h47,wh49,h50,qpi]<;>rfl)
 cases h
 exact zd (by simp only[go_sem,seval,qtu,qmk,h43,qpi]<;>rfl)
theorem jf7 (a0:qc)(a1:qc){s1:Int}{d}(h:itO (qql a0 a1) s1=some d):X pr (.loop qtu) (qmk a0 a1 s1)=some (qpi a0 a1 d):=km (jwc a0 a1) (fun d=>by rcases d with d|d<;>(intro hh;cases hh)) h
def qqt (a0:qc)(a1:qc)(s2:Int):Option (Int⊕(Unit⊕Int)):=
 cond (decide (s2<((a0.units.getD []).length:Int)))
  (jy (zz (a0.units.getD []) s2) fun v72=>
  jy (zz (a1.units.getD []) s2) fun v74=>
  jy (f62 v72 v74) fun v76=>
  cond v76
   (some (.inl (j8 .i64 (s2+1))))
   (some (.inr (.inl ()))))
  (some (.inr (.inr s2)))
def qmb (a0:qc)(a1:qc)(s2:Int):qg:=⟨[(2,.vptr (.agg [Iv a0.day,sl 5 zg a0.lots,sl 4 za a0.products,sl 8 vun a0.units]),false),(3,.vptr (.agg [Iv a1.day,sl 5 zg a1.lots,sl 4 za a1.products,sl 8 vun a1.units]),false),(7,Iv s2,false)],[]⟩
def qpa (a0:qc)(a1:qc):Unit⊕Int→qn×qg
 | .inl d=>(.ret,⟨[(4,.bool false,false)],[]⟩)
 | .inr d=>(.exit 4,⟨[(2,.vptr (.agg [Iv a0.day,sl 5 zg a0.lots,sl 4 za a0.products,sl 8 vun a0.units]),false),(3,.vptr (.agg [Iv a1.day,sl 5 zg a1.lots,sl 4 za a1.products,sl 8 vun a1.units]),false),(7,Iv d,false),(81,.bool false,false)],[]⟩)
theorem jw2 (a0:qc)(a1:qc)(s2:Int)(r)(h:qqt a0 a1 s2=some r):y6 pr qtj (qmb a0 a1) (qpa a0 a1) s2 r:=by
 unfold qqt at h
 rcases jx h with⟨h71,h⟩|⟨h71,h⟩
 ·obtain⟨v72,h73,h⟩:=jw h
  obtain⟨v74,h75,h⟩:=jw h
  obtain⟨v76,h77,h⟩:=jw h
  have wh77:=W62 h77
  rcases jx h with⟨h78,h⟩|⟨h78,h⟩
  ·cases h
   exact zq (by simp only[go_sem,seval,qtj,qmb,h71,jz h73,jz h75,wh77,h78]<;>rfl)
  cases h
  exact zd (by simp only[go_sem,seval,qtj,qmb,h71,jz h73,jz h75,wh77,h78,qpa]<;>rfl)
 cases h
 exact zd (by simp only[go_sem,seval,qtj,qmb,h71,qpa]<;>rfl)
theorem jgr (a0:qc)(a1:qc){s2:Int}{d}(h:itO (qqt a0 a1) s2=some d):X pr (.loop qtj) (qmb a0 a1 s2)=some (qpa a0 a1 d):=km (jw2 a0 a1) (fun d=>by rcases d with d|d<;>(intro hh;cases hh)) h
def f13 (a0:qc)(a1:qc):Option Bool:=
 cond (decide (a0.day=a1.day))
  (cond (decide (((a0.lots.getD []).length:Int)=((a1.lots.getD []).length:Int)))
   (cond (decide (((a0.products.getD []).length:Int)=((a1.products.getD []).length:Int)))
    (cond (decide (((a0.units.getD []).length:Int)=((a1.units.getD []).length:Int)))
     (jy (itO (qqd a0 a1) 0) fun d23=>match d23 with
      | .inl d25=>
       some false
      | .inr d26=>
       jy (itO (qql a0 a1) 0) fun d51=>match d51 with
        | .inl d53=>
         some false
        | .inr d54=>
         jy (itO (qqt a0 a1) 0) fun d79=>match d79 with
          | .inl d81=>
           some false
          | .inr d82=>
           some true)
     (some false))
    (some false))
   (some false))
  (some false)
theorem W13 {a0:qc}{a1:qc}{r}(h:f13 a0 a1=some r):j6 pr (X pr) 13 [.agg [Iv a0.day,sl 5 zg a0.lots,sl 4 za a0.products,sl 8 vun a0.units],.agg [Iv a1.day,sl 5 zg a1.lots,sl 4 za a1.products,sl 8 vun a1.units]]=some (.bool r,false):=by
 unfold f13 at h
 rcases jx h with⟨h1,h⟩|⟨h1,h⟩
 ·rcases jx h with⟨h2,h⟩|⟨h2,h⟩
  ·rcases jx h with⟨h3,h⟩|⟨h3,h⟩
   ·rcases jx h with⟨h4,h⟩|⟨h4,h⟩
    ·obtain⟨d23,h24,h⟩:=jw h
     rcases d23 with d25|d26
     ·have wh24:=jf3 a0 a1 h24
      dsimp only[qmx,qow]at wh24
      obtain rfl:=oi h
      refine zk c13 ?_
      simp only[go_sem,seval,c13,h1,h2,h3,h4,wh24]
      exact⟨_,rfl⟩
     have wh24:=jf3 a0 a1 h24
     dsimp only[qmx,qow]at wh24
     obtain⟨d51,h52,h⟩:=jw h
     rcases d51 with d53|d54
     ·have wh52:=jf7 a0 a1 h52
      dsimp only[qmk,qpi]at wh52
      obtain rfl:=oi h
      refine zk c13 ?_
      simp only[go_sem,seval,c13,h1,h2,h3,h4,wh24,wh52]
      exact⟨_,rfl⟩
     have wh52:=jf7 a0 a1 h52
     dsimp only[qmk,qpi]at wh52
     obtain⟨d79,h80,h⟩:=jw h
     rcases d79 with d81|d82
     ·have wh80:=jgr a0 a1 h80
      dsimp only[qmb,qpa]at wh80
      obtain rfl:=oi h
      refine zk c13 ?_
      simp only[go_sem,seval,c13,h1,h2,h3,h4,wh24,wh52,wh80]
      exact⟨_,rfl⟩
     have wh80:=jgr a0 a1 h80
     dsimp only[qmb,qpa]at wh80
     obtain rfl:=oi h
     refine zk c13 ?_
     simp only[go_sem,seval,c13,h1,h2,h3,h4,wh24,wh52,wh80]
     exact⟨_,rfl⟩
    obtain rfl:=oi h
    refine zk c13 ?_
    simp only[go_sem,seval,c13,h1,h2,h3,h4]
    exact⟨_,rfl⟩
   obtain rfl:=oi h
   refine zk c13 ?_
   simp only[go_sem,seval,c13,h1,h2,h3]
   exact⟨_,rfl⟩
  obtain rfl:=oi h
  refine zk c13 ?_
  simp only[go_sem,seval,c13,h1,h2]
  exact⟨_,rfl⟩
 obtain rfl:=oi h
 refine zk c13 ?_
 simp only[go_sem,seval,c13,h1]
 exact⟨_,rfl⟩
def f60 (a0:List UInt8):Option ji:=
 cond (decide (a0=([108,111,116]:List UInt8)))
  (some (⟨2,2,true⟩))
  (cond (decide (a0=([112,114,111,100,117,99,116]:List UInt8)))
   (some (⟨1,1,true⟩))
   (cond (decide (a0=([105,115,115,117,101]:List UInt8)))
    (some (⟨1,1,true⟩))
    (cond (decide (a0=([117,112,100,97,116,101]:List UInt8)))
     (some (⟨1,1,true⟩))
     (cond (decide (a0=([104,111,108,100]:List UInt8)))
      (some (⟨1,1,true⟩))
      (cond (decide (a0=([102,114,101,101]:List UInt8)))
       (some (⟨1,1,true⟩))
       (cond (decide (a0=([115,104,105,112]:List UInt8)))
        (some (⟨1,1,true⟩))
        (cond (decide (a0=([99,111,109,112,108,97,105,110]:List UInt8)))
         (some (⟨1,1,true⟩))
         (cond (decide (a0=([110,101,101,100]:List UInt8)))
          (some (⟨2,2,true⟩))
          (cond (decide (a0=([117,115,101]:List UInt8)))
           (some (⟨2,2,true⟩))
           (cond (decide (a0=([109,101,97,115,117,114,101]:List UInt8)))
            (some (⟨2,2,true⟩))
            (cond (decide (a0=([116,101,115,116]:List UInt8)))
             (some (⟨2,3,true⟩))
             (cond (decide (a0=([98,117,105,108,100]:List UInt8)))
              (some (⟨2,1,true⟩))
              (cond (decide (a0=([112,97,105,114]:List UInt8)))
               (some (⟨2,1,true⟩))
               (cond (decide (a0=([117,110,100,111]:List UInt8)))
                (some (⟨0,0,true⟩))
                (some (⟨0,0,false⟩))))))))))))))))
theorem W60 {a0:List UInt8}{r}(h:f60 a0=some r):j6 pr (X pr) 60 [.str a0]=some (.agg [Iv r.names,Iv r.values,.bool r.known],false):=by
 unfold f60 at h
 rcases jx h with⟨h1,h⟩|⟨h1,h⟩
 ·obtain rfl:=oi h
  refine zk c60 ?_
  simp only[go_sem,seval,c60,h1]
  exact⟨_,rfl⟩
 rcases jx h with⟨h2,h⟩|⟨h2,h⟩
 ·obtain rfl:=oi h
  refine zk c60 ?_
  simp only[go_sem,seval,c60,h1,h2]
  exact⟨_,rfl⟩
 rcases jx h with⟨h3,h⟩|⟨h3,h⟩
 ·obtain rfl:=oi h
  refine zk c60 ?_
  simp only[go_sem,seval,c60,h1,h2,h3]
  exact⟨_,rfl⟩
 rcases jx h with⟨h4,h⟩|⟨h4,h⟩
 ·obtain rfl:=oi h
  refine zk c60 ?_
  simp only[go_sem,seval,c60,h1,h2,h3,h4]
  exact⟨_,rfl⟩
 rcases jx h with⟨h5,h⟩|⟨h5,h⟩
 ·obtain rfl:=oi h
  refine zk c60 ?_
  simp only[go_sem,seval,c60,h1,h2,h3,h4,h5]
  exact⟨_,rfl⟩
 rcases jx h with⟨h6,h⟩|⟨h6,h⟩
 ·obtain rfl:=oi h
  refine zk c60 ?_
  simp only[go_sem,seval,c60,h1,h2,h3,h4,h5,h6]
  exact⟨_,rfl⟩
 rcases jx h with⟨h7,h⟩|⟨h7,h⟩
 ·obtain rfl:=oi h
  refine zk c60 ?_
  simp only[go_sem,seval,c60,h1,h2,h3,h4,h5,h6,h7]
  exact⟨_,rfl⟩
 rcases jx h with⟨h8,h⟩|⟨h8,h⟩
 ·obtain rfl:=oi h
  refine zk c60 ?_
  simp only[go_sem,seval,c60,h1,h2,h3,h4,h5,h6,h7,h8]
  exact⟨_,rfl⟩
 rcases jx h with⟨h9,h⟩|⟨h9,h⟩
 ·obtain rfl:=oi h
  refine zk c60 ?_
  simp only[go_sem,seval,c60,h1,h2,h3,h4,h5,h6,h7,h8,h9]
  exact⟨_,rfl⟩
 rcases jx h with⟨h10,h⟩|⟨h10,h⟩
 ·obtain rfl:=oi h
  refine zk c60 ?_
  simp only[go_sem,seval,c60,h1,h2,h3,h4,h5,h6,h7,h8,h9,h10]
  exact⟨_,rfl⟩
 rcases jx h with⟨h11,h⟩|⟨h11,h⟩
 ·obtain rfl:=oi h
  refine zk c60 ?_
  simp only[go_sem,seval,c60,h1,h2,h3,h4,h5,h6,h7,h8,h9,h10,h11]
  exact⟨_,rfl⟩
 rcases jx h with⟨h12,h⟩|⟨h12,h⟩
 ·obtain rfl:=oi h
  refine zk c60 ?_
  simp only[go_sem,seval,c60,h1,h2,h3,h4,h5,h6,h7,h8,h9,h10,h11,h12]
  exact⟨_,rfl⟩
 rcases jx h with⟨h13,h⟩|⟨h13,h⟩
 ·obtain rfl:=oi h
  refine zk c60 ?_
  simp only[go_sem,seval,c60,h1,h2,h3,h4,h5,h6,h7,h8,h9,h10,h11,h12,h13]
  exact⟨_,rfl⟩
 rcases jx h with⟨h14,h⟩|⟨h14,h⟩
 ·obtain rfl:=oi h
  refine zk c60 ?_
  simp only[go_sem,seval,c60,h1,h2,h3,h4,h5,h6,h7,h8,h9,h10,h11,h12,h13,h14]
  exact⟨_,rfl⟩
 rcases jx h with⟨h15,h⟩|⟨h15,h⟩
 ·obtain rfl:=oi h
  refine zk c60 ?_
  simp only[go_sem,seval,c60,h1,h2,h3,h4,h5,h6,h7,h8,h9,h10,h11,h12,h13,h14,h15]
  exact⟨_,rfl⟩
 obtain rfl:=oi h
 refine zk c60 ?_
 simp only[go_sem,seval,c60,h1,h2,h3,h4,h5,h6,h7,h8,h9,h10,h11,h12,h13,h14,h15]
 exact⟨_,rfl⟩
def qq9 (a0:ql)(v4:ji)(s0:Int):Option (Int⊕(Unit⊕Int)):=
 cond (decide (s0<v4.names))
  (jy (zz (a0.names.getD []) s0) fun v22=>
  jy (f26 v22) fun v24=>
  cond v24
   (some (.inl (j8 .i64 (s0+1))))
   (some (.inr (.inl ()))))
  (some (.inr (.inr s0)))
def qm2 (a0:ql)(v4:ji)(s0:Int):qg:=⟨[(1,.vptr (.agg [Iv a0.number,.str a0.kind,sl 1 yc a0.names,sl 1 yb a0.values,.str a0.text]),false),(3,.vptr (.agg [Iv v4.names,Iv v4.values,.bool true]),false),(4,Iv s0,false)],[]⟩
def qpx (a0:ql)(v4:ji):Unit⊕Int→qn×qg
 | .inl d=>(.ret,⟨[(2,Iv 8,false)],[]⟩)
 | .inr d=>(.exit 0,⟨[(1,.vptr (.agg [Iv a0.number,.str a0.kind,sl 1 yc a0.names,sl 1 yb a0.values,.str a0.text]),false),(3,.vptr (.agg [Iv v4.names,Iv v4.values,.bool true]),false),(4,Iv d,false),(32,.bool false,false)],[]⟩)
theorem jt1 (a0:ql)(v4:ji)(s0:Int)(r)(h:qq9 a0 v4 s0=some r):y6 pr qtz (qm2 a0 v4) (qpx a0 v4) s0 r:=by
 unfold qq9 at h
 rcases jx h with⟨h21,h⟩|⟨h21,h⟩
 ·obtain⟨v22,h23,h⟩:=jw h
  obtain⟨v24,h25,h⟩:=jw h
  rcases jx h with⟨h26,h⟩|⟨h26,h⟩
  ·cases h
   exact zq (by simp only[go_sem,seval,qtz,qm2,h21,jz h23,W26 h25,h26]<;>rfl)
  cases h
  exact zd (by simp only[go_sem,seval,qtz,qm2,h21,jz h23,W26 h25,h26,qpx]<;>rfl)
 cases h
 exact zd (by simp only[go_sem,seval,qtz,qm2,h21,qpx]<;>rfl)
theorem jgp (a0:ql)(v4:ji){s0:Int}{d}(h:itO (qq9 a0 v4) s0=some d):X pr (.loop qtz) (qm2 a0 v4 s0)=some (qpx a0 v4 d):=km (jt1 a0 v4) (fun d=>by rcases d with d|d<;>(intro hh;cases hh)) h
def qqe (a0:ql)(v4:ji)(s1:Int):Option (Int⊕(Unit⊕Int)):=
 cond (decide (s1<v4.values))
  (jy (zz (a0.values.getD []) s1) fun v44=>
  jy (f59 v44 0 999999999) fun v46=>
  cond v46
   (some (.inr (.inl ())))
   (some (.inl (j8 .i64 (s1+1)))))
  (some (.inr (.inr s1)))
def qna (a0:ql)(v4:ji)(s1:Int):qg:=⟨[(1,.vptr (.agg [Iv a0.number,.str a0.kind,sl 1 yc a0.names,sl 1 yb a0.values,.str a0.text]),false),(3,.vptr (.agg [Iv v4.names,Iv v4.values,.bool true]),false),(5,Iv s1,false)],[]⟩
def qpl (a0:ql)(v4:ji):Unit⊕Int→qn×qg
 | .inl d=>(.ret,⟨[(2,Iv 3,false)],[]⟩)
 | .inr d=>(.exit 2,⟨[(1,.vptr (.agg [Iv a0.number,.str a0.kind,sl 1 yc a0.names,sl 1 yb a0.values,.str a0.text]),false),(3,.vptr (.agg [Iv v4.names,Iv v4.values,.bool true]),false),(5,Iv d,false),(45,.bool false,false)],[]⟩)
theorem jxq (a0:ql)(v4:ji)(s1:Int)(r)(h:qqe a0 v4 s1=some r):y6 pr qs6 (qna a0 v4) (qpl a0 v4) s1 r:=by
 unfold qqe at h
 rcases jx h with⟨h43,h⟩|⟨h43,h⟩
 ·obtain⟨v44,h45,h⟩:=jw h
  obtain⟨v46,h47,h⟩:=jw h
  rcases jx h with⟨h48,h⟩|⟨h48,h⟩
  ·cases h
   exact zd (by simp only[go_sem,seval,qs6,qna,h43,jz h45,W59 h47,h48,qpl]<;>rfl)
  cases h
  exact zq (by simp only[go_sem,seval,qs6,qna,h43,jz h45,W59 h47,h48]<;>rfl)
 cases h
 exact zd (by simp only[go_sem,seval,qs6,qna,h43,qpl]<;>rfl)
theorem jf9 (a0:ql)(v4:ji){s1:Int}{d}(h:itO (qqe a0 v4) s1=some d):X pr (.loop qs6) (qna a0 v4 s1)=some (qpl a0 v4 d):=km (jxq a0 v4) (fun d=>by rcases d with d|d<;>(intro hh;cases hh)) h
def f12 (a0:ql):Option Int:=
 jy (f59 a0.number 1 1000) fun v1=>
 cond v1
  (some 3)
  (jy (f60 a0.kind) fun v4=>
  cond v4.known
   (cond (decide (((a0.names.getD []).length:Int)=v4.names))
    (cond (decide (((a0.values.getD []).length:Int)=v4.values))
     (jy (itO (qq9 a0 v4) 0) fun d27=>match d27 with
      | .inl d29=>
       some 8
      | .inr d30=>
       jy (itO (qqe a0 v4) 0) fun d49=>match d49 with
        | .inl d51=>
         some 3
        | .inr d52=>
         cond (decide (a0.text=[]))
          (some 0)
          (some 1))
     (some 2))
    (some 2))
   (some 13))
theorem W12 {a0:ql}{r}(h:f12 a0=some r):j6 pr (X pr) 12 [.agg [Iv a0.number,.str a0.kind,sl 1 yc a0.names,sl 1 yb a0.values,.str a0.text]]=some (Iv r,false):=by
 unfold f12 at h
 obtain⟨v1,h2,h⟩:=jw h
 have wh2:=W59 h2
 rcases jx h with⟨h3,h⟩|⟨h3,h⟩
 ·obtain rfl:=oi h
  refine zk c12 ?_
  simp only[go_sem,seval,c12,wh2,h3]
  exact⟨_,rfl⟩
 obtain⟨v4,h5,h⟩:=jw h
 have wh5:=W60 h5
 rcases jx h with⟨h6,h⟩|⟨h6,h⟩
 ·rcases jx h with⟨h7,h⟩|⟨h7,h⟩
  ·rcases jx h with⟨h8,h⟩|⟨h8,h⟩
   ·obtain⟨d27,h28,h⟩:=jw h
    rcases d27 with d29|d30
    ·have wh28:=jgp a0 v4 h28
     dsimp only[qm2,qpx]at wh28
     obtain rfl:=oi h
     refine zk c12 ?_
     simp only[go_sem,seval,c12,wh2,h3,wh5,h6,h7,h8,wh28]
     exact⟨_,rfl⟩
    have wh28:=jgp a0 v4 h28
    dsimp only[qm2,qpx]at wh28
    obtain⟨d49,h50,h⟩:=jw h
    rcases d49 with d51|d52
    ·have wh50:=jf9 a0 v4 h50
     dsimp only[qna,qpl]at wh50
     obtain rfl:=oi h
     refine zk c12 ?_
     simp only[go_sem,seval,c12,wh2,h3,wh5,h6,h7,h8,wh28,wh50]
     exact⟨_,rfl⟩
    have wh50:=jf9 a0 v4 h50
    dsimp only[qna,qpl]at wh50
    rcases jx h with⟨h53,h⟩|⟨h53,h⟩
    ·obtain rfl:=oi h
     refine zk c12 ?_
     simp only[go_sem,seval,c12,wh2,h3,wh5,h6,h7,h8,wh28,wh50,h53]
     exact⟨_,rfl⟩
    obtain rfl:=oi h
    refine zk c12 ?_
    simp only[go_sem,seval,c12,wh2,h3,wh5,h6,h7,h8,wh28,wh50,h53]
    exact⟨_,rfl⟩
   obtain rfl:=oi h
   refine zk c12 ?_
   simp only[go_sem,seval,c12,wh2,h3,wh5,h6,h7,h8]
   exact⟨_,rfl⟩
  obtain rfl:=oi h
  refine zk c12 ?_
  simp only[go_sem,seval,c12,wh2,h3,wh5,h6,h7]
  exact⟨_,rfl⟩
 obtain rfl:=oi h
 refine zk c12 ?_
 simp only[go_sem,seval,c12,wh2,h3,wh5,h6]
 exact⟨_,rfl⟩
end Go.Z
end
