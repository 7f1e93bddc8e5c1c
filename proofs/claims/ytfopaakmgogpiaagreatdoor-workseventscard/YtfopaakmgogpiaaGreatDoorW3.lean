/- Chapter 10. -/
import Derived.Test.YtfopaakmgogpiaaGreatDoorW1
import Derived.Test.YtfopaakmgogpiaaGreatDoorAbsL
import Derived.Test.YtfopaakmgogpiaaGreatDoorCA
set_option linter.unusedVariables false
set_option linter.unusedSimpArgs false
set_option maxRecDepth 100000
set_option maxHeartbeats 4000000
noncomputable section
namespace Go.Z
open Go Go.Abs Go.W
def q1f (a0:qc)(a1:List UInt8)(s0:Int):Option (Int⊕(Int⊕Int)):=
 cond (decide (s0<((a0.units.getD []).length:Int)))
  (jw (zo (a0.units.getD []) s0) fun v10=>
  cond (decide (v10.name=a1))
   (some (.inr (.inl s0)))
   (some (.inl (j6 .i64 (s0+1)))))
  (some (.inr (.inr s0)))
def qri (a0:qc)(a1:List UInt8)(s0:Int):qg:=⟨[(1,.str a1,false),(2,.vptr (aR a0),false),(5,Iv s0,false)],[]⟩
def qra (a0:qc)(a1:List UInt8):Int⊕Int→qo×qg
 | .inl d=>(.ret,⟨[(4,Iv d,false)],[]⟩)
 | .inr d=>(.exit 0,⟨[(1,.str a1,false),(2,.vptr (aR a0),false),(5,Iv d,false),(10,.bool false,false)],[]⟩)
theorem jyp (a0:qc)(a1:List UInt8)(s0:Int)(r)(h:q1f a0 a1 s0=some r):yq pr qv4 (qri a0 a1) (qra a0 a1) s0 r:=by
 unfold q1f at h
 repeat' first|(replace h:=jx h;obtain⟨d,g,h⟩:=h)|(replace h:=jz h;rcases h with⟨g,h⟩|⟨g,h⟩)|fail
 all_goals (cases h<;>(first|(refine zw ?_;simp only[go_sem,seval,qv4,qri,zn,qra,*]<;>rfl)|(refine yl ?_;simp only[go_sem,seval,qv4,qri,zn,qra,*]<;>rfl)))
theorem jyj (a0:qc)(a1:List UInt8){s0:Int}{d}(h:itO (q1f a0 a1) s0=some d):X pr (.loop qv4) (qri a0 a1 s0)=some (qra a0 a1 d):=y8 (jyp a0 a1) (fun d=>by rcases d with d|d<;>(intro hh;cases hh)) h
def f27 (a0:qc)(a1:List UInt8):Option Int:=
 jw (itO (q1f a0 a1) 0) fun d13=>match d13 with
  | .inl d15=>
   some d15
  | .inr d16=>
   some (-1)
theorem W27 {a0:qc}{a1:List UInt8}{r}(h:f27 a0 a1=some r):jy pr (X pr) 27 [aR a0,.str a1]=some (Iv r,false):=by
 unfold f27 at h
 refine y7 c27 ?_
 repeat' first|(replace h:=jx h;obtain⟨d,g,h⟩:=h;with_reducible first|(replace g:=jyj a0 a1 g;rcases d with d|d<;>dsimp only[qri,qra,kc]at g h)|skip)|(replace h:=jz h;rcases h with⟨g,h⟩|⟨g,h⟩)|fail
 all_goals (cases h<;>(simp only[go_sem,seval,c27,*];exact⟨_,rfl⟩))
def q1n (a0:qc)(a1:List UInt8)(s0:Int):Option (Int⊕(Int⊕Int)):=
 cond (decide (s0<((a0.lots.getD []).length:Int)))
  (jw (zo (a0.lots.getD []) s0) fun v10=>
  cond (decide (v10.name=a1))
   (some (.inr (.inl s0)))
   (some (.inl (j6 .i64 (s0+1)))))
  (some (.inr (.inr s0)))
def qqr (a0:qc)(a1:List UInt8)(s0:Int):qg:=⟨[(1,.str a1,false),(2,.vptr (aR a0),false),(5,Iv s0,false)],[]⟩
def qsq (a0:qc)(a1:List UInt8):Int⊕Int→qo×qg
 | .inl d=>(.ret,⟨[(4,Iv d,false)],[]⟩)
 | .inr d=>(.exit 0,⟨[(1,.str a1,false),(2,.vptr (aR a0),false),(5,Iv d,false),(10,.bool false,false)],[]⟩)
theorem j5h (a0:qc)(a1:List UInt8)(s0:Int)(r)(h:q1n a0 a1 s0=some r):yq pr qxo (qqr a0 a1) (qsq a0 a1) s0 r:=by
 unfold q1n at h
 repeat' first|(replace h:=jx h;obtain⟨d,g,h⟩:=h)|(replace h:=jz h;rcases h with⟨g,h⟩|⟨g,h⟩)|fail
 all_goals (cases h<;>(first|(refine zw ?_;simp only[go_sem,seval,qxo,qqr,zn,qsq,*]<;>rfl)|(refine yl ?_;simp only[go_sem,seval,qxo,qqr,zn,qsq,*]<;>rfl)))
theorem j5l (a0:qc)(a1:List UInt8){s0:Int}{d}(h:itO (q1n a0 a1) s0=some d):X pr (.loop qxo) (qqr a0 a1 s0)=some (qsq a0 a1 d):=y8 (j5h a0 a1) (fun d=>by rcases d with d|d<;>(intro hh;cases hh)) h
def f28 (a0:qc)(a1:List UInt8):Option Int:=
 jw (itO (q1n a0 a1) 0) fun d13=>match d13 with
  | .inl d15=>
   some d15
  | .inr d16=>
   some (-1)
theorem W28 {a0:qc}{a1:List UInt8}{r}(h:f28 a0 a1=some r):jy pr (X pr) 28 [aR a0,.str a1]=some (Iv r,false):=by
 unfold f28 at h
 refine y7 c28 ?_
 repeat' first|(replace h:=jx h;obtain⟨d,g,h⟩:=h;with_reducible first|(replace g:=j5l a0 a1 g;rcases d with d|d<;>dsimp only[qqr,qsq,kc]at g h)|skip)|(replace h:=jz h;rcases h with⟨g,h⟩|⟨g,h⟩)|fail
 all_goals (cases h<;>(simp only[go_sem,seval,c28,*];exact⟨_,rfl⟩))
def qw1 (a0:qc)(a1:List UInt8)(s0:Int):Option (Int⊕(Int⊕Int)):=
 cond (decide (s0<((a0.products.getD []).length:Int)))
  (jw (zo (a0.products.getD []) s0) fun v10=>
  cond (decide (v10.name=a1))
   (some (.inr (.inl s0)))
   (some (.inl (j6 .i64 (s0+1)))))
  (some (.inr (.inr s0)))
def qmy (a0:qc)(a1:List UInt8)(s0:Int):qg:=⟨[(1,.str a1,false),(2,.vptr (aR a0),false),(5,Iv s0,false)],[]⟩
def qm0 (a0:qc)(a1:List UInt8):Int⊕Int→qo×qg
 | .inl d=>(.ret,⟨[(4,Iv d,false)],[]⟩)
 | .inr d=>(.exit 0,⟨[(1,.str a1,false),(2,.vptr (aR a0),false),(5,Iv d,false),(10,.bool false,false)],[]⟩)
theorem jn8 (a0:qc)(a1:List UInt8)(s0:Int)(r)(h:qw1 a0 a1 s0=some r):yq pr qsx (qmy a0 a1) (qm0 a0 a1) s0 r:=by
 unfold qw1 at h
 repeat' first|(replace h:=jx h;obtain⟨d,g,h⟩:=h)|(replace h:=jz h;rcases h with⟨g,h⟩|⟨g,h⟩)|fail
 all_goals (cases h<;>(first|(refine zw ?_;simp only[go_sem,seval,qsx,qmy,zn,qm0,*]<;>rfl)|(refine yl ?_;simp only[go_sem,seval,qsx,qmy,zn,qm0,*]<;>rfl)))
theorem jsv (a0:qc)(a1:List UInt8){s0:Int}{d}(h:itO (qw1 a0 a1) s0=some d):X pr (.loop qsx) (qmy a0 a1 s0)=some (qm0 a0 a1 d):=y8 (jn8 a0 a1) (fun d=>by rcases d with d|d<;>(intro hh;cases hh)) h
def f144 (a0:qc)(a1:List UInt8):Option Int:=
 jw (itO (qw1 a0 a1) 0) fun d13=>match d13 with
  | .inl d15=>
   some d15
  | .inr d16=>
   some (-1)
theorem q8r {a0:qc}{a1:List UInt8}{r}(h:f144 a0 a1=some r):jy pr (X pr) 144 [aR a0,.str a1]=some (Iv r,false):=by
 unfold f144 at h
 refine y7 c144 ?_
 repeat' first|(replace h:=jx h;obtain⟨d,g,h⟩:=h;with_reducible first|(replace g:=jsv a0 a1 g;rcases d with d|d<;>dsimp only[qmy,qm0,kc]at g h)|skip)|(replace h:=jz h;rcases h with⟨g,h⟩|⟨g,h⟩)|fail
 all_goals (cases h<;>(simp only[go_sem,seval,c144,*];exact⟨_,rfl⟩))
def qum (a0:Option (List ql))(s0:Int)(s1:Int):Option (Int⊕(Unit⊕Int)):=
 jw (zo (a0.getD []) s0) fun v79=>
 cond (decide (s1<((v79.names.getD []).length:Int)))
  (jw (zo (v79.names.getD []) s1) fun v82=>
  cond (decide (40<(v82.length:Int)))
   (some (.inr (.inl ())))
   (some (.inl (j6 .i64 (s1+1)))))
  (some (.inr (.inr s1)))
def qwg (a0:Option (List ql))(s0:Int)(s1:Int):qg:=⟨[(0,sl 5 vev a0,false),(5,Iv s0,false),(6,Iv s1,false)],[]⟩
def qvk (a0:Option (List ql))(s0:Int):Unit⊕Int→qo×qg
 | .inl d=>(.ret,⟨[(4,.bool false,false)],[]⟩)
 | .inr d=>(.exit 2,⟨[(0,sl 5 vev a0,false),(5,Iv s0,false),(6,Iv d,false),(58,.bool false,false)],[]⟩)
theorem zc1 (a0:Option (List ql))(s0:Int)(s1:Int)(r)(h:qum a0 s0 s1=some r):yq pr q14 (qwg a0 s0) (qvk a0 s0) s1 r:=by
 unfold qum at h
 repeat' first|(replace h:=jx h;obtain⟨d,g,h⟩:=h)|(replace h:=jz h;rcases h with⟨g,h⟩|⟨g,h⟩)|fail
 all_goals (cases h<;>(first|(refine zw ?_;simp only[go_sem,seval,q14,qwg,zn,qvk,*]<;>rfl)|(refine yl ?_;simp only[go_sem,seval,q14,qwg,zn,qvk,*]<;>rfl)))
theorem j87 (a0:Option (List ql))(s0:Int){s1:Int}{d}(h:itO (qum a0 s0) s1=some d):X pr (.loop q14) (qwg a0 s0 s1)=some (qvk a0 s0 d):=y8 (zc1 a0 s0) (fun d=>by rcases d with d|d<;>(intro hh;cases hh)) h
def qun (a0:Option (List ql))(s0:Int):Option (Int⊕(Unit⊕Int)):=
 cond (decide (s0<((a0.getD []).length:Int)))
  (jw (zo (a0.getD []) s0) fun v61=>
  cond (decide (40<(v61.kind.length:Int)))
   (some (.inr (.inl ())))
   (cond (decide (6<((v61.names.getD []).length:Int)))
    (some (.inr (.inl ())))
    (cond (decide (8<((v61.values.getD []).length:Int)))
     (some (.inr (.inl ())))
     (cond (decide (200<(v61.text.length:Int)))
      (some (.inr (.inl ())))
      (jw (itO (qum a0 s0) 0) fun d85=>match d85 with
       | .inl d87=>
        some (.inr (.inl ()))
       | .inr d88=>
        some (.inl (j6 .i64 (s0+1))))))))
  (some (.inr (.inr s0)))
def qvv (a0:Option (List ql))(s0:Int):qg:=⟨[(0,sl 5 vev a0,false),(5,Iv s0,false)],[]⟩
def qvy (a0:Option (List ql)):Unit⊕Int→qo×qg
 | .inl d=>(.ret,⟨[(4,.bool false,false)],[]⟩)
 | .inr d=>(.exit 0,⟨[(0,sl 5 vev a0,false),(5,Iv d,false),(14,.bool false,false)],[]⟩)
theorem j88 (a0:Option (List ql))(s0:Int)(r)(h:qun a0 s0=some r):yq pr q4t (qvv a0) (qvy a0) s0 r:=by
 unfold qun at h
 repeat' first|(replace h:=jx h;obtain⟨d,g,h⟩:=h;with_reducible first|(replace g:=j87 a0 s0 g;rcases d with d|d<;>dsimp only[qwg,qvk,kc]at g h)|skip)|(replace h:=jz h;rcases h with⟨g,h⟩|⟨g,h⟩)|fail
 all_goals (cases h<;>(first|(refine zw ?_;simp only[go_sem,seval,q4t,qvv,zn,qvy,*]<;>rfl)|(refine yl ?_;simp only[go_sem,seval,q4t,qvv,zn,qvy,*]<;>rfl)))
theorem za1 (a0:Option (List ql)){s0:Int}{d}(h:itO (qun a0) s0=some d):X pr (.loop q4t) (qvv a0 s0)=some (qvy a0 d):=y8 (j88 a0) (fun d=>by rcases d with d|d<;>(intro hh;cases hh)) h
def f7 (a0:Option (List ql))(a1:Int):Option Bool:=
 cond (decide (a1<((a0.getD []).length:Int)))
  (some false)
  (jw (itO (qun a0) 0) fun d89=>match d89 with
   | .inl d91=>
    some false
   | .inr d92=>
    some true)
theorem W7 {a0:Option (List ql)}{a1:Int}{r}(h:f7 a0 a1=some r):jy pr (X pr) 7 [sl 5 vev a0,Iv a1]=some (.bool r,false):=by
 unfold f7 at h
 refine y7 c7 ?_
 repeat' first|(replace h:=jx h;obtain⟨d,g,h⟩:=h;with_reducible first|(replace g:=za1 a0 g;rcases d with d|d<;>dsimp only[qvv,qvy,kc]at g h)|skip)|(replace h:=jz h;rcases h with⟨g,h⟩|⟨g,h⟩)|fail
 all_goals (cases h<;>(simp only[go_sem,seval,c7,*];exact⟨_,rfl⟩))
def qkt (a0:qc)(a1:qf)(a2:List UInt8)(s0:Int×Int):Option ((Int×Int)⊕((Int×Int))):=
 cond (decide (s0.2<((a1.uses.getD []).length:Int)))
  (jw (zo (a1.uses.getD []) s0.2) fun v18=>
  jw (f28 a0 v18.k) fun v20=>
  jw (zo (a0.lots.getD []) v20) fun v22=>
  cond (decide (v22.kind=a2))
   (some (.inl (j6 .i64 (s0.1+v18.n),j6 .i64 (s0.2+1))))
   (some (.inl (s0.1,j6 .i64 (s0.2+1)))))
  (some (.inr (s0.1,s0.2)))
def qoc (a0:qc)(a1:qf)(a2:List UInt8)(s0:Int×Int):qg:=⟨[(2,.str a2,false),(3,.vptr (aR a0),false),(4,.vptr (aU a1),false),(7,Iv s0.1,false),(8,Iv s0.2,false)],[]⟩
def qmx (a0:qc)(a1:qf)(a2:List UInt8)(d:(Int×Int)):qo×qg:=(.exit 0,⟨[(2,.str a2,false),(3,.vptr (aR a0),false),(4,.vptr (aU a1),false),(7,Iv d.1,false),(8,Iv d.2,false),(13,.bool false,false)],[]⟩)
theorem jo4 (a0:qc)(a1:qf)(a2:List UInt8)(s0:Int×Int)(r)(h:qkt a0 a1 a2 s0=some r):yq pr qr3 (qoc a0 a1 a2) (qmx a0 a1 a2) s0 r:=by
 unfold qkt at h
 repeat' first|(replace h:=jx h;obtain⟨d,g,h⟩:=h;with_reducible first|replace g:=W28 g|skip)|(replace h:=jz h;rcases h with⟨g,h⟩|⟨g,h⟩)|fail
 all_goals (cases h<;>(first|(refine zw ?_;simp only[go_sem,seval,qr3,qoc,zn,qmx,*]<;>rfl)|(refine yl ?_;simp only[go_sem,seval,qr3,qoc,zn,qmx,*]<;>rfl)))
theorem jq2 (a0:qc)(a1:qf)(a2:List UInt8){s0:Int×Int}{d}(h:itO (qkt a0 a1 a2) s0=some d):X pr (.loop qr3) (qoc a0 a1 a2 s0)=some (qmx a0 a1 a2 d):=y8 (jo4 a0 a1 a2) (fun d hh=>by cases hh) h
def f145 (a0:qc)(a1:qf)(a2:List UInt8):Option Int:=
 jw (itO (qkt a0 a1 a2) (0,0)) fun d25=>
 some d25.1
theorem zg5 {a0:qc}{a1:qf}{a2:List UInt8}{r}(h:f145 a0 a1 a2=some r):jy pr (X pr) 145 [aR a0,aU a1,.str a2]=some (Iv r,false):=by
 unfold f145 at h
 refine y7 c145 ?_
 repeat' first|(replace h:=jx h;obtain⟨d,g,h⟩:=h;with_reducible first|(replace g:=jq2 a0 a1 a2 g;dsimp only[qoc,qmx,kc]at g h)|skip)|(replace h:=jz h;rcases h with⟨g,h⟩|⟨g,h⟩)|fail
 all_goals (cases h<;>(simp only[go_sem,seval,c145,*];exact⟨_,rfl⟩))
def f78 (a0:qc)(a1:qf):Option qr:=
 jw (f144 a0 a1.product) fun v1=>
 jw (zo (a0.products.getD []) v1) fun v3=>
 jw (zo (v3.docs.getD []) (j6 .i64 (a1.version-1))) fun v5=>
 some v5
theorem W78 {a0:qc}{a1:qf}{r}(h:f78 a0 a1=some r):jy pr (X pr) 78 [aR a0,aU a1]=some (aD r,false):=by
 unfold f78 at h
 refine y7 c78 ?_
 repeat' first|(replace h:=jx h;obtain⟨d,g,h⟩:=h;with_reducible first|replace g:=q8r g|skip)|(replace h:=jz h;rcases h with⟨g,h⟩|⟨g,h⟩)|fail
 all_goals (cases h<;>(simp only[go_sem,seval,c78,zn,*];exact⟨_,rfl⟩))
def qot (a0:qf)(a1:qk)(s0:Bool×Int):Option ((Bool×Int)⊕((Bool×Int))):=
 cond (decide (s0.2<((a0.results.getD []).length:Int)))
  (jw (zo (a0.results.getD []) s0.2) fun v14=>
  cond (decide (v14.k=a1.k))
   (cond (decide (v14.a=a0.version))
    (cond (decide (a1.a≤v14.b))
     (some (.inl (decide (v14.b≤a1.b),j6 .i64 (s0.2+1))))
     (some (.inl (false,j6 .i64 (s0.2+1)))))
    (some (.inl (s0.1,j6 .i64 (s0.2+1)))))
   (some (.inl (s0.1,j6 .i64 (s0.2+1)))))
  (some (.inr (s0.1,s0.2)))
def qq8 (a0:qf)(a1:qk)(s0:Bool×Int):qg:=⟨[(2,.vptr (aU a0),false),(3,.vptr (aT a1),false),(5,.bool s0.1,false),(6,Iv s0.2,false)],[]⟩
def qr9 (a0:qf)(a1:qk)(d:(Bool×Int)):qo×qg:=(.exit 0,⟨[(2,.vptr (aU a0),false),(3,.vptr (aT a1),false),(5,.bool d.1,false),(6,Iv d.2,false),(12,.bool false,false)],[]⟩)
theorem j3v (a0:qf)(a1:qk)(s0:Bool×Int)(r)(h:qot a0 a1 s0=some r):yq pr qxk (qq8 a0 a1) (qr9 a0 a1) s0 r:=by
 unfold qot at h
 repeat' first|(replace h:=jx h;obtain⟨d,g,h⟩:=h)|(replace h:=jz h;rcases h with⟨g,h⟩|⟨g,h⟩)|fail
 all_goals (cases h<;>(first|(refine zw ?_;simp only[go_sem,seval,qxk,qq8,zn,qr9,*]<;>rfl)|(refine yl ?_;simp only[go_sem,seval,qxk,qq8,zn,qr9,*]<;>rfl)))
theorem j1b (a0:qf)(a1:qk){s0:Bool×Int}{d}(h:itO (qot a0 a1) s0=some d):X pr (.loop qxk) (qq8 a0 a1 s0)=some (qr9 a0 a1 d):=y8 (j3v a0 a1) (fun d hh=>by cases hh) h
def f79 (a0:qf)(a1:qk):Option Bool:=
 jw (itO (qot a0 a1) (false,0)) fun d19=>
 some d19.1
theorem W79 {a0:qf}{a1:qk}{r}(h:f79 a0 a1=some r):jy pr (X pr) 79 [aU a0,aT a1]=some (.bool r,false):=by
 unfold f79 at h
 refine y7 c79 ?_
 repeat' first|(replace h:=jx h;obtain⟨d,g,h⟩:=h;with_reducible first|(replace g:=j1b a0 a1 g;dsimp only[qq8,qr9,kc]at g h)|skip)|(replace h:=jz h;rcases h with⟨g,h⟩|⟨g,h⟩)|fail
 all_goals (cases h<;>(simp only[go_sem,seval,c79,*];exact⟨_,rfl⟩))
def f80 (a0:qc)(a1:qf):Option Int:=
 jw (f144 a0 a1.product) fun v1=>
 jw (zo (a0.products.getD []) v1) fun v3=>
 some ((v3.docs.getD []).length:Int)
theorem W80 {a0:qc}{a1:qf}{r}(h:f80 a0 a1=some r):jy pr (X pr) 80 [aR a0,aU a1]=some (Iv r,false):=by
 unfold f80 at h
 refine y7 c80 ?_
 repeat' first|(replace h:=jx h;obtain⟨d,g,h⟩:=h;with_reducible first|replace g:=q8r g|skip)|(replace h:=jz h;rcases h with⟨g,h⟩|⟨g,h⟩)|fail
 all_goals (cases h<;>(simp only[go_sem,seval,c80,zn,*];exact⟨_,rfl⟩))
def qpr (a0:qc)(a1:qf)(v1:qr)(s0:Int):Option (Int⊕(Unit⊕Int)):=
 cond (decide (s0<((v1.needs.getD []).length:Int)))
  (jw (zo (v1.needs.getD []) s0) fun v16=>
  jw (f145 a0 a1 v16.k) fun v18=>
  cond (decide (v18<v16.n))
   (some (.inr (.inl ())))
   (some (.inl (j6 .i64 (s0+1)))))
  (some (.inr (.inr s0)))
def qru (a0:qc)(a1:qf)(v1:qr)(s0:Int):qg:=⟨[(2,.vptr (aR a0),false),(3,.vptr (aU a1),false),(5,.vptr (aD v1),false),(6,Iv s0,false)],[]⟩
def qrv (a0:qc)(a1:qf)(v1:qr):Unit⊕Int→qo×qg
 | .inl d=>(.ret,⟨[(4,.bool false,false)],[]⟩)
 | .inr d=>(.exit 0,⟨[(2,.vptr (aR a0),false),(3,.vptr (aU a1),false),(5,.vptr (aD v1),false),(6,Iv d,false),(14,.bool false,false)],[]⟩)
theorem j0c (a0:qc)(a1:qf)(v1:qr)(s0:Int)(r)(h:qpr a0 a1 v1 s0=some r):yq pr qxe (qru a0 a1 v1) (qrv a0 a1 v1) s0 r:=by
 unfold qpr at h
 repeat' first|(replace h:=jx h;obtain⟨d,g,h⟩:=h;with_reducible first|replace g:=zg5 g|skip)|(replace h:=jz h;rcases h with⟨g,h⟩|⟨g,h⟩)|fail
 all_goals (cases h<;>(first|(refine zw ?_;simp only[go_sem,seval,qxe,qru,zn,qrv,*]<;>rfl)|(refine yl ?_;simp only[go_sem,seval,qxe,qru,zn,qrv,*]<;>rfl)))
theorem jzd (a0:qc)(a1:qf)(v1:qr){s0:Int}{d}(h:itO (qpr a0 a1 v1) s0=some d):X pr (.loop qxe) (qru a0 a1 v1 s0)=some (qrv a0 a1 v1 d):=y8 (j0c a0 a1 v1) (fun d=>by rcases d with d|d<;>(intro hh;cases hh)) h
def f81 (a0:qc)(a1:qf):Option Bool:=
 jw (f78 a0 a1) fun v1=>
 jw (itO (qpr a0 a1 v1) 0) fun d21=>match d21 with
  | .inl d23=>
   some false
  | .inr d24=>
   some true
theorem W81 {a0:qc}{a1:qf}{r}(h:f81 a0 a1=some r):jy pr (X pr) 81 [aR a0,aU a1]=some (.bool r,false):=by
 unfold f81 at h
 refine y7 c81 ?_
 repeat' first|(replace h:=jx h;obtain⟨d,g,h⟩:=h;with_reducible first|replace g:=W78 g|(replace g:=jzd a0 a1 _ g;rcases d with d|d<;>dsimp only[qru,qrv,kc]at g h)|skip)|(replace h:=jz h;rcases h with⟨g,h⟩|⟨g,h⟩)|fail
 all_goals (cases h<;>(simp only[go_sem,seval,c81,*];exact⟨_,rfl⟩))
def qo6 (a1:qf)(v1:qr)(s0:(Option (List (List UInt8)))×Int×Bool):Option (((Option (List (List UInt8)))×Int×Bool)⊕(((Option (List (List UInt8)))×Bool×Int))):=
 cond (decide (s0.2.1<((v1.tests.getD []).length:Int)))
  (jw (zo (v1.tests.getD []) s0.2.1) fun v22=>
  jw (f79 a1 v22) fun v24=>
  cond v24
   (some (.inl (s0.1,j6 .i64 (s0.2.1+1),s0.2.2)))
   (cond s0.2.2
    (jw (apO s0.1 [v22.k]) fun v28=>
    some (.inl (v28,j6 .i64 (s0.2.1+1),true)))
    (cond s0.1.isNone
     (jw (apO s0.1 [v22.k]) fun v31=>
     some (.inl (v31,j6 .i64 (s0.2.1+1),true)))
     (none))))
  (some (.inr (s0.1,s0.2.2,s0.2.1)))
def qqo (a1:qf)(v1:qr)(s0:(Option (List (List UInt8)))×Int×Bool):qg:=⟨[(3,.vptr (aU a1),false),(5,.vptr (aD v1),false),(6,sl 1 qae s0.1,s0.2.2),(7,Iv s0.2.1,false)],[]⟩
def qqt (a1:qf)(v1:qr)(d:((Option (List (List UInt8)))×Bool×Int)):qo×qg:=(.exit 0,⟨[(3,.vptr (aU a1),false),(5,.vptr (aD v1),false),(6,sl 1 qae d.1,d.2.1),(7,Iv d.2.2,false),(15,.bool false,false)],[]⟩)
theorem j1p (a1:qf)(v1:qr)(s0:(Option (List (List UInt8)))×Int×Bool)(r)(h:qo6 a1 v1 s0=some r):yq pr qvj (qqo a1 v1) (qqt a1 v1) s0 r:=by
 unfold qo6 at h
 repeat' first|(replace h:=jx h;obtain⟨d,g,h⟩:=h;with_reducible first|replace g:=W79 g|replace g:=q6d g|skip)|(replace h:=jz h;rcases h with⟨g,h⟩|⟨g,h⟩)|fail
 all_goals (cases h<;>(first|(refine zw ?_;simp only[go_sem,seval,qvj,qqo,zn,qqt,*]<;>rfl)|(refine yl ?_;simp only[go_sem,seval,qvj,qqo,zn,qqt,*]<;>rfl)))
theorem j1l (a1:qf)(v1:qr){s0:(Option (List (List UInt8)))×Int×Bool}{d}(h:itO (qo6 a1 v1) s0=some d):X pr (.loop qvj) (qqo a1 v1 s0)=some (qqt a1 v1 d):=y8 (j1p a1 v1) (fun d hh=>by cases hh) h
def f30 (a0:qc)(a1:qf):Option ((Option (List (List UInt8)))×Bool):=
 jw (f78 a0 a1) fun v1=>
 jw (itO (qo6 a1 v1) (none,0,false)) fun d33=>
 some (d33.1,d33.2.1)
theorem W30 {a0:qc}{a1:qf}{r}(h:f30 a0 a1=some r):jy pr (X pr) 30 [aR a0,aU a1]=some (sl 1 qae r.1,r.2):=by
 unfold f30 at h
 refine qa5 c30 ?_
 repeat' first|(replace h:=jx h;obtain⟨d,g,h⟩:=h;with_reducible first|replace g:=W78 g|(replace g:=j1l a1 _ g;dsimp only[qqo,qqt,kc]at g h)|skip)|(replace h:=jz h;rcases h with⟨g,h⟩|⟨g,h⟩)|fail
 all_goals (cases h<;>(simp only[go_sem,seval,c30,*];exact⟨_,rfl⟩))
def qlo (a0:qc)(a1:qf)(s0:Int):Option (Int⊕(Unit⊕Int)):=
 cond (decide (s0<((a1.uses.getD []).length:Int)))
  (jw (zo (a1.uses.getD []) s0) fun v28=>
  jw (f28 a0 v28.k) fun v30=>
  jw (zo (a0.lots.getD []) v30) fun v32=>
  cond v32.held
   (some (.inr (.inl ())))
   (some (.inl (j6 .i64 (s0+1)))))
  (some (.inr (.inr s0)))
def qqy (a0:qc)(a1:qf)(s0:Int):qg:=⟨[(2,.vptr (aR a0),false),(3,.vptr (.agg [.str a1.name,.str a1.product,Iv a1.version,sl 2 vsi a1.uses,sl 3 zz a1.results,.str a1.partner,.bool false,Iv a1.complaints]),false),(5,Iv s0,false)],[]⟩
def qqi (a0:qc)(a1:qf):Unit⊕Int→qo×qg
 | .inl d=>(.ret,⟨[(4,Iv 34,false)],[]⟩)
 | .inr d=>(.exit 0,⟨[(2,.vptr (aR a0),false),(3,.vptr (.agg [.str a1.name,.str a1.product,Iv a1.version,sl 2 vsi a1.uses,sl 3 zz a1.results,.str a1.partner,.bool false,Iv a1.complaints]),false),(5,Iv d,false),(27,.bool false,false)],[]⟩)
theorem jxo (a0:qc)(a1:qf)(s0:Int)(r)(h:qlo a0 a1 s0=some r):yq pr qv5 (qqy a0 a1) (qqi a0 a1) s0 r:=by
 unfold qlo at h
 repeat' first|(replace h:=jx h;obtain⟨d,g,h⟩:=h;with_reducible first|replace g:=W28 g|skip)|(replace h:=jz h;rcases h with⟨g,h⟩|⟨g,h⟩)|fail
 all_goals (cases h<;>(first|(refine zw ?_;simp only[go_sem,seval,qv5,qqy,zn,qqi,*]<;>rfl)|(refine yl ?_;simp only[go_sem,seval,qv5,qqy,zn,qqi,*]<;>rfl)))
theorem j4b (a0:qc)(a1:qf){s0:Int}{d}(h:itO (qlo a0 a1) s0=some d):X pr (.loop qv5) (qqy a0 a1 s0)=some (qqi a0 a1 d):=y8 (jxo a0 a1) (fun d=>by rcases d with d|d<;>(intro hh;cases hh)) h
def f31 (a0:qc)(a1:qf):Option Int:=
 cond a1.shipped
  (some 21)
  (jw (f80 a0 (⟨a1.name,a1.product,a1.version,a1.uses,a1.results,a1.partner,false,a1.complaints⟩)) fun v2=>
  cond (decide (a1.version=v2))
   (jw (f81 a0 (⟨a1.name,a1.product,a1.version,a1.uses,a1.results,a1.partner,false,a1.complaints⟩)) fun v5=>
   cond v5
    (jw (f30 a0 (⟨a1.name,a1.product,a1.version,a1.uses,a1.results,a1.partner,false,a1.complaints⟩)) fun v8=>
    cond (decide (0<((v8.1.getD []).length:Int)))
     (some 31)
     (jw (itO (qlo a0 a1) 0) fun d35=>match d35 with
      | .inl d37=>
       some 34
      | .inr d38=>
       some 0))
    (some 20))
   (some 32))
theorem W31 {a0:qc}{a1:qf}{r}(h:f31 a0 a1=some r):jy pr (X pr) 31 [.agg [.int .i64 a0.day,sl 5 z7 a0.lots,sl 4 zr a0.products,sl 8 vun a0.units],.agg [.str a1.name,.str a1.product,.int .i64 a1.version,sl 2 vsi a1.uses,sl 3 zz a1.results,.str a1.partner,.bool a1.shipped,.int .i64 a1.complaints]]=some (.int .i64 r,false):=by
 unfold f31 at h
 refine y7 c31 ?_
 repeat' first|(replace h:=jx h;obtain⟨d,g,h⟩:=h;with_reducible first|replace g:=W80 g|replace g:=W81 g|replace g:=W30 g|(replace g:=j4b a0 a1 g;rcases d with d|d<;>dsimp only[qqy,qqi,kc]at g h)|skip)|(replace h:=jz h;rcases h with⟨g,h⟩|⟨g,h⟩)|fail
 all_goals (cases h<;>(simp only[go_sem,seval,c31,*];exact⟨_,rfl⟩))
end Go.Z
end
