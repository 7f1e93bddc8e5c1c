/- Chapter 10. -/
import Derived.Test.YtfopaakmgogpiaaGreatDoorW4
import Derived.Test.YtfopaakmgogpiaaGreatDoorAbsL
import Derived.Test.YtfopaakmgogpiaaGreatDoorCA
set_option linter.unusedVariables false
set_option linter.unusedSimpArgs false
set_option maxRecDepth 100000
set_option maxHeartbeats 4000000
noncomputable section
namespace Go.Z
open Go Go.Abs Go.W
def qk8 (a0:qr)(a1:qr)(s0:Int):Option (Int⊕(Unit⊕Int)):=
 cond (decide (s0<((a0.needs.getD []).length:Int)))
  (jw (zo (a0.needs.getD []) s0) fun v16=>
  jw (zo (a1.needs.getD []) s0) fun v18=>
  cond (decide (v16.k=v18.k)&&decide (v16.n=v18.n))
   (some (.inl (j6 .i64 (s0+1))))
   (some (.inr (.inl ()))))
  (some (.inr (.inr s0)))
def qnl (a0:qr)(a1:qr)(s0:Int):qg:=⟨[(2,.vptr (aD a0),false),(3,.vptr (aD a1),false),(5,Iv s0,false)],[]⟩
def qn6 (a0:qr)(a1:qr):Unit⊕Int→qo×qg
 | .inl d=>(.ret,⟨[(4,.bool false,false)],[]⟩)
 | .inr d=>(.exit 0,⟨[(2,.vptr (aD a0),false),(3,.vptr (aD a1),false),(5,Iv d,false),(27,.bool false,false)],[]⟩)
theorem jpt (a0:qr)(a1:qr)(s0:Int)(r)(h:qk8 a0 a1 s0=some r):yq pr qqd (qnl a0 a1) (qn6 a0 a1) s0 r:=by
 unfold qk8 at h
 repeat' first|(replace h:=jx h;obtain⟨d,g,h⟩:=h)|(replace h:=jz h;rcases h with⟨g,h⟩|⟨g,h⟩)|fail
 all_goals (cases h<;>(first|(refine zw ?_;simp only[go_sem,seval,qqd,qnl,zn,qn6,*]<;>rfl)|(refine yl ?_;simp only[go_sem,seval,qqd,qnl,zn,qn6,*]<;>rfl)))
theorem jtx (a0:qr)(a1:qr){s0:Int}{d}(h:itO (qk8 a0 a1) s0=some d):X pr (.loop qqd) (qnl a0 a1 s0)=some (qn6 a0 a1 d):=y8 (jpt a0 a1) (fun d=>by rcases d with d|d<;>(intro hh;cases hh)) h
def qkk (a0:qr)(a1:qr)(s1:Int):Option (Int⊕(Unit⊕Int)):=
 cond (decide (s1<((a0.tests.getD []).length:Int)))
  (jw (zo (a0.tests.getD []) s1) fun v38=>
  jw (zo (a1.tests.getD []) s1) fun v40=>
  cond (decide (v38.k=v40.k)&&decide (v38.a=v40.a)&&decide (v38.b=v40.b))
   (some (.inl (j6 .i64 (s1+1))))
   (some (.inr (.inl ()))))
  (some (.inr (.inr s1)))
def qnn (a0:qr)(a1:qr)(s1:Int):qg:=⟨[(2,.vptr (aD a0),false),(3,.vptr (aD a1),false),(6,Iv s1,false)],[]⟩
def qod (a0:qr)(a1:qr):Unit⊕Int→qo×qg
 | .inl d=>(.ret,⟨[(4,.bool false,false)],[]⟩)
 | .inr d=>(.exit 2,⟨[(2,.vptr (aD a0),false),(3,.vptr (aD a1),false),(6,Iv d,false),(45,.bool false,false)],[]⟩)
theorem jry (a0:qr)(a1:qr)(s1:Int)(r)(h:qkk a0 a1 s1=some r):yq pr qq6 (qnn a0 a1) (qod a0 a1) s1 r:=by
 unfold qkk at h
 repeat' first|(replace h:=jx h;obtain⟨d,g,h⟩:=h)|(replace h:=jz h;rcases h with⟨g,h⟩|⟨g,h⟩)|fail
 all_goals (cases h<;>(first|(refine zw ?_;simp only[go_sem,seval,qq6,qnn,zn,qod,*]<;>rfl)|(refine yl ?_;simp only[go_sem,seval,qq6,qnn,zn,qod,*]<;>rfl)))
theorem jun (a0:qr)(a1:qr){s1:Int}{d}(h:itO (qkk a0 a1) s1=some d):X pr (.loop qq6) (qnn a0 a1 s1)=some (qod a0 a1 d):=y8 (jry a0 a1) (fun d=>by rcases d with d|d<;>(intro hh;cases hh)) h
def f119 (a0:qr)(a1:qr):Option Bool:=
 cond (decide (((a0.needs.getD []).length:Int)=((a1.needs.getD []).length:Int)))
  (cond (decide (((a0.tests.getD []).length:Int)=((a1.tests.getD []).length:Int)))
   (jw (itO (qk8 a0 a1) 0) fun d21=>match d21 with
    | .inl d23=>
     some false
    | .inr d24=>
     jw (itO (qkk a0 a1) 0) fun d43=>match d43 with
      | .inl d45=>
       some false
      | .inr d46=>
       some true)
   (some false))
  (some false)
theorem jpa {a0:qr}{a1:qr}{r}(h:f119 a0 a1=some r):jy pr (X pr) 119 [aD a0,aD a1]=some (.bool r,false):=by
 unfold f119 at h
 refine y7 c119 ?_
 repeat' first|(replace h:=jx h;obtain⟨d,g,h⟩:=h;with_reducible first|(replace g:=jtx a0 a1 g;rcases d with d|d<;>dsimp only[qnl,qn6,kc]at g h)|(replace g:=jun a0 a1 g;rcases d with d|d<;>dsimp only[qnn,qod,kc]at g h)|skip)|(replace h:=jz h;rcases h with⟨g,h⟩|⟨g,h⟩)|fail
 all_goals (cases h<;>(simp only[go_sem,seval,c119,*];exact⟨_,rfl⟩))
def qpi (a0:qi)(a1:qi)(s0:Int):Option (Int⊕(Unit⊕Int)):=
 cond (decide (s0<((a0.docs.getD []).length:Int)))
  (jw (zo (a0.docs.getD []) s0) fun v23=>
  jw (zo (a1.docs.getD []) s0) fun v25=>
  jw (f119 v23 v25) fun v27=>
  cond v27
   (some (.inl (j6 .i64 (s0+1))))
   (some (.inr (.inl ()))))
  (some (.inr (.inr s0)))
def qp4 (a0:qi)(a1:qi)(s0:Int):qg:=⟨[(2,.vptr (aP a0),false),(3,.vptr (aP a1),false),(5,Iv s0,false)],[]⟩
def qqc (a0:qi)(a1:qi):Unit⊕Int→qo×qg
 | .inl d=>(.ret,⟨[(4,.bool false,false)],[]⟩)
 | .inr d=>(.exit 0,⟨[(2,.vptr (aP a0),false),(3,.vptr (aP a1),false),(5,Iv d,false),(32,.bool false,false)],[]⟩)
theorem j4f (a0:qi)(a1:qi)(s0:Int)(r)(h:qpi a0 a1 s0=some r):yq pr qwz (qp4 a0 a1) (qqc a0 a1) s0 r:=by
 unfold qpi at h
 repeat' first|(replace h:=jx h;obtain⟨d,g,h⟩:=h;with_reducible first|replace g:=jpa g|skip)|(replace h:=jz h;rcases h with⟨g,h⟩|⟨g,h⟩)|fail
 all_goals (cases h<;>(first|(refine zw ?_;simp only[go_sem,seval,qwz,qp4,zn,qqc,*]<;>rfl)|(refine yl ?_;simp only[go_sem,seval,qwz,qp4,zn,qqc,*]<;>rfl)))
theorem j0h (a0:qi)(a1:qi){s0:Int}{d}(h:itO (qpi a0 a1) s0=some d):X pr (.loop qwz) (qp4 a0 a1 s0)=some (qqc a0 a1 d):=y8 (j4f a0 a1) (fun d=>by rcases d with d|d<;>(intro hh;cases hh)) h
def f61 (a0:qi)(a1:qi):Option Bool:=
 cond (decide (a0.name=a1.name))
  (jw (f119 (⟨a0.dn,a0.dt⟩) (⟨a1.dn,a1.dt⟩)) fun v2=>
  cond v2
   (cond (decide (((a0.docs.getD []).length:Int)=((a1.docs.getD []).length:Int)))
    (jw (itO (qpi a0 a1) 0) fun d30=>match d30 with
     | .inl d32=>
      some false
     | .inr d33=>
      some true)
    (some false))
   (some false))
  (some false)
theorem W61 {a0:qi}{a1:qi}{r}(h:f61 a0 a1=some r):jy pr (X pr) 61 [aP a0,aP a1]=some (.bool r,false):=by
 unfold f61 at h
 refine y7 c61 ?_
 repeat' first|(replace h:=jx h;obtain⟨d,g,h⟩:=h;with_reducible first|replace g:=jpa g|(replace g:=j0h a0 a1 g;rcases d with d|d<;>dsimp only[qp4,qqc,kc]at g h)|skip)|(replace h:=jz h;rcases h with⟨g,h⟩|⟨g,h⟩)|fail
 all_goals (cases h<;>(simp only[go_sem,seval,c61,*];exact⟨_,rfl⟩))
def qpl (a0:qf)(a1:qf)(s0:Int):Option (Int⊕(Unit⊕Int)):=
 cond (decide (s0<((a0.uses.getD []).length:Int)))
  (jw (zo (a0.uses.getD []) s0) fun v22=>
  jw (zo (a1.uses.getD []) s0) fun v24=>
  cond (decide (v22.k=v24.k)&&decide (v22.n=v24.n))
   (some (.inl (j6 .i64 (s0+1))))
   (some (.inr (.inl ()))))
  (some (.inr (.inr s0)))
def qrs (a0:qf)(a1:qf)(s0:Int):qg:=⟨[(2,.vptr (aU a0),false),(3,.vptr (aU a1),false),(5,Iv s0,false)],[]⟩
def qqa (a0:qf)(a1:qf):Unit⊕Int→qo×qg
 | .inl d=>(.ret,⟨[(4,.bool false,false)],[]⟩)
 | .inr d=>(.exit 0,⟨[(2,.vptr (aU a0),false),(3,.vptr (aU a1),false),(5,Iv d,false),(69,.bool false,false)],[]⟩)
theorem j48 (a0:qf)(a1:qf)(s0:Int)(r)(h:qpl a0 a1 s0=some r):yq pr qwp (qrs a0 a1) (qqa a0 a1) s0 r:=by
 unfold qpl at h
 repeat' first|(replace h:=jx h;obtain⟨d,g,h⟩:=h)|(replace h:=jz h;rcases h with⟨g,h⟩|⟨g,h⟩)|fail
 all_goals (cases h<;>(first|(refine zw ?_;simp only[go_sem,seval,qwp,qrs,zn,qqa,*]<;>rfl)|(refine yl ?_;simp only[go_sem,seval,qwp,qrs,zn,qqa,*]<;>rfl)))
theorem jyw (a0:qf)(a1:qf){s0:Int}{d}(h:itO (qpl a0 a1) s0=some d):X pr (.loop qwp) (qrs a0 a1 s0)=some (qqa a0 a1 d):=y8 (j48 a0 a1) (fun d=>by rcases d with d|d<;>(intro hh;cases hh)) h
def qpc (a0:qf)(a1:qf)(s1:Int):Option (Int⊕(Unit⊕Int)):=
 cond (decide (s1<((a0.results.getD []).length:Int)))
  (jw (zo (a0.results.getD []) s1) fun v44=>
  jw (zo (a1.results.getD []) s1) fun v46=>
  cond (decide (v44.k=v46.k)&&decide (v44.a=v46.a)&&decide (v44.b=v46.b))
   (some (.inl (j6 .i64 (s1+1))))
   (some (.inr (.inl ()))))
  (some (.inr (.inr s1)))
def qsn (a0:qf)(a1:qf)(s1:Int):qg:=⟨[(2,.vptr (aU a0),false),(3,.vptr (aU a1),false),(6,Iv s1,false)],[]⟩
def qre (a0:qf)(a1:qf):Unit⊕Int→qo×qg
 | .inl d=>(.ret,⟨[(4,.bool false,false)],[]⟩)
 | .inr d=>(.exit 2,⟨[(2,.vptr (aU a0),false),(3,.vptr (aU a1),false),(6,Iv d,false),(87,.bool false,false)],[]⟩)
theorem jzk (a0:qf)(a1:qf)(s1:Int)(r)(h:qpc a0 a1 s1=some r):yq pr qw5 (qsn a0 a1) (qre a0 a1) s1 r:=by
 unfold qpc at h
 repeat' first|(replace h:=jx h;obtain⟨d,g,h⟩:=h)|(replace h:=jz h;rcases h with⟨g,h⟩|⟨g,h⟩)|fail
 all_goals (cases h<;>(first|(refine zw ?_;simp only[go_sem,seval,qw5,qsn,zn,qre,*]<;>rfl)|(refine yl ?_;simp only[go_sem,seval,qw5,qsn,zn,qre,*]<;>rfl)))
theorem jzo (a0:qf)(a1:qf){s1:Int}{d}(h:itO (qpc a0 a1) s1=some d):X pr (.loop qw5) (qsn a0 a1 s1)=some (qre a0 a1 d):=y8 (jzk a0 a1) (fun d=>by rcases d with d|d<;>(intro hh;cases hh)) h
def f62 (a0:qf)(a1:qf):Option Bool:=
 cond (decide (a0.name=a1.name))
  (cond (decide (a0.product=a1.product))
   (cond (decide (a0.version=a1.version))
    (cond (decide (a0.partner=a1.partner))
     (cond (a0.shipped == a1.shipped)
      (cond (decide (a0.complaints=a1.complaints))
       (cond (decide (((a0.uses.getD []).length:Int)=((a1.uses.getD []).length:Int)))
        (cond (decide (((a0.results.getD []).length:Int)=((a1.results.getD []).length:Int)))
         (jw (itO (qpl a0 a1) 0) fun d27=>match d27 with
          | .inl d29=>
           some false
          | .inr d30=>
           jw (itO (qpc a0 a1) 0) fun d49=>match d49 with
            | .inl d51=>
             some false
            | .inr d52=>
             some true)
         (some false))
        (some false))
       (some false))
      (some false))
     (some false))
    (some false))
   (some false))
  (some false)
theorem W62 {a0:qf}{a1:qf}{r}(h:f62 a0 a1=some r):jy pr (X pr) 62 [aU a0,aU a1]=some (.bool r,false):=by
 unfold f62 at h
 refine y7 c62 ?_
 repeat' first|(replace h:=jx h;obtain⟨d,g,h⟩:=h;with_reducible first|(replace g:=jyw a0 a1 g;rcases d with d|d<;>dsimp only[qrs,qqa,kc]at g h)|(replace g:=jzo a0 a1 g;rcases d with d|d<;>dsimp only[qsn,qre,kc]at g h)|skip)|(replace h:=jz h;rcases h with⟨g,h⟩|⟨g,h⟩)|fail
 all_goals (cases h<;>(simp only[go_sem,seval,c62,*];exact⟨_,rfl⟩))
def qpf (a0:qc)(a1:qc)(s0:Int):Option (Int⊕(Unit⊕Int)):=
 cond (decide (s0<((a0.lots.getD []).length:Int)))
  (jw (zo (a0.lots.getD []) s0) fun v18=>
  jw (zo (a1.lots.getD []) s0) fun v20=>
  cond (decide (v18.name=v20.name)&&decide (v18.kind=v20.kind)&&decide (v18.count=v20.count)&&decide (v18.left=v20.left)&&decide (v18.held=v20.held))
   (some (.inl (j6 .i64 (s0+1))))
   (some (.inr (.inl ()))))
  (some (.inr (.inr s0)))
def qq5 (a0:qc)(a1:qc)(s0:Int):qg:=⟨[(2,.vptr (aR a0),false),(3,.vptr (aR a1),false),(5,Iv s0,false)],[]⟩
def qrp (a0:qc)(a1:qc):Unit⊕Int→qo×qg
 | .inl d=>(.ret,⟨[(4,.bool false,false)],[]⟩)
 | .inr d=>(.exit 0,⟨[(2,.vptr (aR a0),false),(3,.vptr (aR a1),false),(5,Iv d,false),(44,.bool false,false)],[]⟩)
theorem jx0 (a0:qc)(a1:qc)(s0:Int)(r)(h:qpf a0 a1 s0=some r):yq pr qvr (qq5 a0 a1) (qrp a0 a1) s0 r:=by
 unfold qpf at h
 repeat' first|(replace h:=jx h;obtain⟨d,g,h⟩:=h)|(replace h:=jz h;rcases h with⟨g,h⟩|⟨g,h⟩)|fail
 all_goals (cases h<;>(first|(refine zw ?_;simp only[go_sem,seval,qvr,qq5,zn,qrp,*]<;>rfl)|(refine yl ?_;simp only[go_sem,seval,qvr,qq5,zn,qrp,*]<;>rfl)))
theorem jyq (a0:qc)(a1:qc){s0:Int}{d}(h:itO (qpf a0 a1) s0=some d):X pr (.loop qvr) (qq5 a0 a1 s0)=some (qrp a0 a1 d):=y8 (jx0 a0 a1) (fun d=>by rcases d with d|d<;>(intro hh;cases hh)) h
def qoo (a0:qc)(a1:qc)(s1:Int):Option (Int⊕(Unit⊕Int)):=
 cond (decide (s1<((a0.products.getD []).length:Int)))
  (jw (zo (a0.products.getD []) s1) fun v44=>
  jw (zo (a1.products.getD []) s1) fun v46=>
  jw (f61 v44 v46) fun v48=>
  cond v48
   (some (.inl (j6 .i64 (s1+1))))
   (some (.inr (.inl ()))))
  (some (.inr (.inr s1)))
def qp5 (a0:qc)(a1:qc)(s1:Int):qg:=⟨[(2,.vptr (aR a0),false),(3,.vptr (aR a1),false),(6,Iv s1,false)],[]⟩
def qqq (a0:qc)(a1:qc):Unit⊕Int→qo×qg
 | .inl d=>(.ret,⟨[(4,.bool false,false)],[]⟩)
 | .inr d=>(.exit 2,⟨[(2,.vptr (aR a0),false),(3,.vptr (aR a1),false),(6,Iv d,false),(62,.bool false,false)],[]⟩)
theorem jzt (a0:qc)(a1:qc)(s1:Int)(r)(h:qoo a0 a1 s1=some r):yq pr qyd (qp5 a0 a1) (qqq a0 a1) s1 r:=by
 unfold qoo at h
 repeat' first|(replace h:=jx h;obtain⟨d,g,h⟩:=h;with_reducible first|replace g:=W61 g|skip)|(replace h:=jz h;rcases h with⟨g,h⟩|⟨g,h⟩)|fail
 all_goals (cases h<;>(first|(refine zw ?_;simp only[go_sem,seval,qyd,qp5,zn,qqq,*]<;>rfl)|(refine yl ?_;simp only[go_sem,seval,qyd,qp5,zn,qqq,*]<;>rfl)))
theorem jwh (a0:qc)(a1:qc){s1:Int}{d}(h:itO (qoo a0 a1) s1=some d):X pr (.loop qyd) (qp5 a0 a1 s1)=some (qqq a0 a1 d):=y8 (jzt a0 a1) (fun d=>by rcases d with d|d<;>(intro hh;cases hh)) h
def qpm (a0:qc)(a1:qc)(s2:Int):Option (Int⊕(Unit⊕Int)):=
 cond (decide (s2<((a0.units.getD []).length:Int)))
  (jw (zo (a0.units.getD []) s2) fun v72=>
  jw (zo (a1.units.getD []) s2) fun v74=>
  jw (f62 v72 v74) fun v76=>
  cond v76
   (some (.inl (j6 .i64 (s2+1))))
   (some (.inr (.inl ()))))
  (some (.inr (.inr s2)))
def qqj (a0:qc)(a1:qc)(s2:Int):qg:=⟨[(2,.vptr (aR a0),false),(3,.vptr (aR a1),false),(7,Iv s2,false)],[]⟩
def qqh (a0:qc)(a1:qc):Unit⊕Int→qo×qg
 | .inl d=>(.ret,⟨[(4,.bool false,false)],[]⟩)
 | .inr d=>(.exit 4,⟨[(2,.vptr (aR a0),false),(3,.vptr (aR a1),false),(7,Iv d,false),(81,.bool false,false)],[]⟩)
theorem jv6 (a0:qc)(a1:qc)(s2:Int)(r)(h:qpm a0 a1 s2=some r):yq pr qw8 (qqj a0 a1) (qqh a0 a1) s2 r:=by
 unfold qpm at h
 repeat' first|(replace h:=jx h;obtain⟨d,g,h⟩:=h;with_reducible first|replace g:=W62 g|skip)|(replace h:=jz h;rcases h with⟨g,h⟩|⟨g,h⟩)|fail
 all_goals (cases h<;>(first|(refine zw ?_;simp only[go_sem,seval,qw8,qqj,zn,qqh,*]<;>rfl)|(refine yl ?_;simp only[go_sem,seval,qw8,qqj,zn,qqh,*]<;>rfl)))
theorem jxu (a0:qc)(a1:qc){s2:Int}{d}(h:itO (qpm a0 a1) s2=some d):X pr (.loop qw8) (qqj a0 a1 s2)=some (qqh a0 a1 d):=y8 (jv6 a0 a1) (fun d=>by rcases d with d|d<;>(intro hh;cases hh)) h
def f13 (a0:qc)(a1:qc):Option Bool:=
 cond (decide (a0.day=a1.day))
  (cond (decide (((a0.lots.getD []).length:Int)=((a1.lots.getD []).length:Int)))
   (cond (decide (((a0.products.getD []).length:Int)=((a1.products.getD []).length:Int)))
    (cond (decide (((a0.units.getD []).length:Int)=((a1.units.getD []).length:Int)))
     (jw (itO (qpf a0 a1) 0) fun d23=>match d23 with
      | .inl d25=>
       some false
      | .inr d26=>
       jw (itO (qoo a0 a1) 0) fun d51=>match d51 with
        | .inl d53=>
         some false
        | .inr d54=>
         jw (itO (qpm a0 a1) 0) fun d79=>match d79 with
          | .inl d81=>
           some false
          | .inr d82=>
           some true)
     (some false))
    (some false))
   (some false))
  (some false)
theorem W13 {a0:qc}{a1:qc}{r}(h:f13 a0 a1=some r):jy pr (X pr) 13 [aR a0,aR a1]=some (.bool r,false):=by
 unfold f13 at h
 refine y7 c13 ?_
 repeat' first|(replace h:=jx h;obtain⟨d,g,h⟩:=h;with_reducible first|(replace g:=jyq a0 a1 g;rcases d with d|d<;>dsimp only[qq5,qrp,kc]at g h)|(replace g:=jwh a0 a1 g;rcases d with d|d<;>dsimp only[qp5,qqq,kc]at g h)|(replace g:=jxu a0 a1 g;rcases d with d|d<;>dsimp only[qqj,qqh,kc]at g h)|skip)|(replace h:=jz h;rcases h with⟨g,h⟩|⟨g,h⟩)|fail
 all_goals (cases h<;>(simp only[go_sem,seval,c13,*];exact⟨_,rfl⟩))
def f60 (a0:List UInt8):Option ji:=
 cond (decide (a0=([108,111,116]:List UInt8)))
  (some (⟨2,2,true⟩))
  (cond (decide (a0=([112,114,111,100,117,99,116]:List UInt8)))
   (some (⟨1,1,true⟩))
   (cond (decide (a0=([105,115,115,117,101]:List UInt8)))
    (some (⟨1,1,true⟩))
    (cond (decide (a0=([117,112,100,97,116,101]:List UInt8)))
     (some (⟨1,1,true⟩))
     (cond (decide (a0=([104,111,108,100]:List UInt8)))
      (some (⟨1,1,true⟩))
      (cond (decide (a0=([102,114,101,101]:List UInt8)))
       (some (⟨1,1,true⟩))
       (cond (decide (a0=([115,104,105,112]:List UInt8)))
        (some (⟨1,1,true⟩))
        (cond (decide (a0=([99,111,109,112,108,97,105,110]:List UInt8)))
         (some (⟨1,1,true⟩))
         (cond (decide (a0=([110,101,101,100]:List UInt8)))
          (some (⟨2,2,true⟩))
          (cond (decide (a0=([117,115,101]:List UInt8)))
           (some (⟨2,2,true⟩))
           (cond (decide (a0=([109,101,97,115,117,114,101]:List UInt8)))
            (some (⟨2,2,true⟩))
            (cond (decide (a0=([116,101,115,116]:List UInt8)))
             (some (⟨2,3,true⟩))
             (cond (decide (a0=([98,117,105,108,100]:List UInt8)))
              (some (⟨2,1,true⟩))
              (cond (decide (a0=([112,97,105,114]:List UInt8)))
               (some (⟨2,1,true⟩))
               (cond (decide (a0=([117,110,100,111]:List UInt8)))
                (some (⟨0,0,true⟩))
                (some (⟨0,0,false⟩))))))))))))))))
theorem W60 {a0:List UInt8}{r}(h:f60 a0=some r):jy pr (X pr) 60 [.str a0]=some (.agg [Iv r.names,Iv r.values,.bool r.known],false):=by
 unfold f60 at h
 refine y7 c60 ?_
 repeat' first|(replace h:=jz h;rcases h with⟨g,h⟩|⟨g,h⟩)|fail
 all_goals (cases h<;>(simp only[go_sem,seval,c60,*];exact⟨_,rfl⟩))
def qph (a0:ql)(v4:ji)(s0:Int):Option (Int⊕(Unit⊕Int)):=
 cond (decide (s0<v4.names))
  (jw (zo (a0.names.getD []) s0) fun v22=>
  jw (f26 v22) fun v24=>
  cond v24
   (some (.inl (j6 .i64 (s0+1))))
   (some (.inr (.inl ()))))
  (some (.inr (.inr s0)))
def qrj (a0:ql)(v4:ji)(s0:Int):qg:=⟨[(1,.vptr (aE a0),false),(3,.vptr (.agg [Iv v4.names,Iv v4.values,.bool true]),false),(4,Iv s0,false)],[]⟩
def qr2 (a0:ql)(v4:ji):Unit⊕Int→qo×qg
 | .inl d=>(.ret,⟨[(2,Iv 8,false)],[]⟩)
 | .inr d=>(.exit 0,⟨[(1,.vptr (aE a0),false),(3,.vptr (.agg [Iv v4.names,Iv v4.values,.bool true]),false),(4,Iv d,false),(32,.bool false,false)],[]⟩)
theorem j3k (a0:ql)(v4:ji)(s0:Int)(r)(h:qph a0 v4 s0=some r):yq pr qwb (qrj a0 v4) (qr2 a0 v4) s0 r:=by
 unfold qph at h
 repeat' first|(replace h:=jx h;obtain⟨d,g,h⟩:=h;with_reducible first|replace g:=W26 g|skip)|(replace h:=jz h;rcases h with⟨g,h⟩|⟨g,h⟩)|fail
 all_goals (cases h<;>(first|(refine zw ?_;simp only[go_sem,seval,qwb,qrj,zn,qr2,*]<;>rfl)|(refine yl ?_;simp only[go_sem,seval,qwb,qrj,zn,qr2,*]<;>rfl)))
theorem j20 (a0:ql)(v4:ji){s0:Int}{d}(h:itO (qph a0 v4) s0=some d):X pr (.loop qwb) (qrj a0 v4 s0)=some (qr2 a0 v4 d):=y8 (j3k a0 v4) (fun d=>by rcases d with d|d<;>(intro hh;cases hh)) h
def qo1 (a0:ql)(v4:ji)(s1:Int):Option (Int⊕(Unit⊕Int)):=
 cond (decide (s1<v4.values))
  (jw (zo (a0.values.getD []) s1) fun v44=>
  jw (f59 v44 0 999999999) fun v46=>
  cond v46
   (some (.inr (.inl ())))
   (some (.inl (j6 .i64 (s1+1)))))
  (some (.inr (.inr s1)))
def qrm (a0:ql)(v4:ji)(s1:Int):qg:=⟨[(1,.vptr (aE a0),false),(3,.vptr (.agg [Iv v4.names,Iv v4.values,.bool true]),false),(5,Iv s1,false)],[]⟩
def qsj (a0:ql)(v4:ji):Unit⊕Int→qo×qg
 | .inl d=>(.ret,⟨[(2,Iv 3,false)],[]⟩)
 | .inr d=>(.exit 2,⟨[(1,.vptr (aE a0),false),(3,.vptr (.agg [Iv v4.names,Iv v4.values,.bool true]),false),(5,Iv d,false),(45,.bool false,false)],[]⟩)
theorem jxt (a0:ql)(v4:ji)(s1:Int)(r)(h:qo1 a0 v4 s1=some r):yq pr qx4 (qrm a0 v4) (qsj a0 v4) s1 r:=by
 unfold qo1 at h
 repeat' first|(replace h:=jx h;obtain⟨d,g,h⟩:=h;with_reducible first|replace g:=W59 g|skip)|(replace h:=jz h;rcases h with⟨g,h⟩|⟨g,h⟩)|fail
 all_goals (cases h<;>(first|(refine zw ?_;simp only[go_sem,seval,qx4,qrm,zn,qsj,*]<;>rfl)|(refine yl ?_;simp only[go_sem,seval,qx4,qrm,zn,qsj,*]<;>rfl)))
theorem jxi (a0:ql)(v4:ji){s1:Int}{d}(h:itO (qo1 a0 v4) s1=some d):X pr (.loop qx4) (qrm a0 v4 s1)=some (qsj a0 v4 d):=y8 (jxt a0 v4) (fun d=>by rcases d with d|d<;>(intro hh;cases hh)) h
def f12 (a0:ql):Option Int:=
 jw (f59 a0.number 1 1000) fun v1=>
 cond v1
  (some 3)
  (jw (f60 a0.kind) fun v4=>
  cond v4.known
   (cond (decide (((a0.names.getD []).length:Int)=v4.names))
    (cond (decide (((a0.values.getD []).length:Int)=v4.values))
     (jw (itO (qph a0 v4) 0) fun d27=>match d27 with
      | .inl d29=>
       some 8
      | .inr d30=>
       jw (itO (qo1 a0 v4) 0) fun d49=>match d49 with
        | .inl d51=>
         some 3
        | .inr d52=>
         cond (decide (a0.text=[]))
          (some 0)
          (some 1))
     (some 2))
    (some 2))
   (some 13))
theorem W12 {a0:ql}{r}(h:f12 a0=some r):jy pr (X pr) 12 [aE a0]=some (Iv r,false):=by
 unfold f12 at h
 refine y7 c12 ?_
 repeat' first|(replace h:=jx h;obtain⟨d,g,h⟩:=h;with_reducible first|replace g:=W59 g|replace g:=W60 g|(replace g:=j20 a0 _ g;rcases d with d|d<;>dsimp only[qrj,qr2,kc]at g h)|(replace g:=jxi a0 _ g;rcases d with d|d<;>dsimp only[qrm,qsj,kc]at g h)|skip)|(replace h:=jz h;rcases h with⟨g,h⟩|⟨g,h⟩)|fail
 all_goals (cases h<;>(simp only[go_sem,seval,c12,*];exact⟨_,rfl⟩))
end Go.Z
end
