/- Chapter 4. -/
import Derived.Test.YthpnjcfibpfbfaaGreatDoorA4
set_option linter.unusedVariables false
set_option linter.unusedSimpArgs false
set_option maxRecDepth 100000
set_option maxHeartbeats 4000000
noncomputable section
namespace Go.Z
open Go Go.Abs
def qsf (a0:GRat)(a1:GRat):Option (qco×Int):=
 cond (decide (a1.num=0)&&decide (a1.den=0))
  (some (⟨0,0,0,0⟩,17))
  (some (⟨a0.num,a0.den,a1.num,a1.den⟩,0))
theorem jdj {a0:GRat}{a1:GRat}{r}(h:qsf a0 a1=some r):qd pr (X pr) 101 [.agg [.int .i64 a0.num,.int .i64 a0.den],.agg [.int .i64 a1.num,.int .i64 a1.den]]=some (.tup [.agg [.int .i64 r.1.a,.int .i64 r.1.b,.int .i64 r.1.c,.int .i64 r.1.d],.int .i64 r.2],false):=by
 unfold qsf at h
 rcases qr h with⟨h1,h⟩|⟨h1,h⟩
 ·have hr:(⟨0,0,0,0⟩,17)=r:=Option.some.inj h
  subst hr
  refine jg rfl ?_ (fun _=>by first|rfl|simp only[go_sem,seval]) (by first|rfl|simp only[go_sem,seval])
  rw[qm (show pr.fns 101=some c101 from rfl) (by simp)]
  simp only[go_sem,seval,c101,h1]
  exact⟨_,rfl⟩
 ·have hr:(⟨a0.num,a0.den,a1.num,a1.den⟩,0)=r:=Option.some.inj h
  subst hr
  refine jg rfl ?_ (fun _=>by first|rfl|simp only[go_sem,seval]) (by first|rfl|simp only[go_sem,seval])
  rw[qm (show pr.fns 101=some c101 from rfl) (by simp)]
  simp only[go_sem,seval,c101,h1]
  exact⟨_,rfl⟩
def qsy (a0:ju)(a1:GRat)(c0_0:Int)(c0_1:Int)(c0_2:Int)(c0_3:Int):Option ((qco×Int)):=
 qh (qsf a1 (⟨a0.m0,a0.m1⟩)) fun v1=>
 some (v1.1,v1.2)
theorem jam {a0:ju}{a1:GRat}{c0_0:Int}{c0_1:Int}{c0_2:Int}{c0_3:Int}{r}(h:qsy a0 a1 c0_0 c0_1 c0_2 c0_3=some r):jq pr (X pr) 100 [.agg [.int .i64 a0.m0,.int .i64 a0.m1,.int .i64 a0.m2,.int .i64 a0.m3,.int .i64 a0.m4,.int .i64 a0.m5,.int .i64 a0.m6,.int .i64 a0.m7],.agg [.int .i64 a1.num,.int .i64 a1.den]] [.cells [(.int .i64 c0_0,false),(.int .i64 c0_1,false),(.int .i64 c0_2,false),(.int .i64 c0_3,false)]]=some (.tup [.agg [.int .i64 r.1.a,.int .i64 r.1.b,.int .i64 r.1.c,.int .i64 r.1.d],.int .i64 r.2],false,[.cells [(.int .i64 c0_0,false),(.int .i64 c0_1,false),(.int .i64 c0_2,false),(.int .i64 c0_3,false)],.cells [(.int .i64 r.1.a,false),(.int .i64 r.1.b,false),(.int .i64 r.1.c,false),(.int .i64 r.1.d,false)]]):=by
 unfold qsy at h
 obtain⟨v1,h2,h⟩:=qc h
 have wh2:qd pr (X pr) 101 [.agg [.int .i64 a1.num,.int .i64 a1.den],.agg [.int .i64 a0.m0,.int .i64 a0.m1]]=some (.tup [.agg [.int .i64 v1.1.a,.int .i64 v1.1.b,.int .i64 v1.1.c,.int .i64 v1.1.d],.int .i64 v1.2],false):=jdj h2
 have hr:(v1.1,v1.2)=r:=Option.some.inj h
 subst hr
 rw[qm (show pr.fns 100=some c100 from rfl) (by simp)]
 simp only[go_sem,seval,c100,wh2]<;>rfl
def f69 (a0:ju)(a1:GRat)(c0_0:Int)(c0_1:Int):Option ((GRat×Int)):=
 cond (decide (a0.m0=0)&&decide (a0.m1=0))
  (some (⟨0,0⟩,17))
  (qh (qlc a1) fun v2=>
  qh (qlc (⟨a0.m0,a0.m1⟩)) fun v4=>
  qh (qoi v2 v4) fun v6=>
  some (v6,0))
theorem W69 {a0:ju}{a1:GRat}{c0_0:Int}{c0_1:Int}{r}(h:f69 a0 a1 c0_0 c0_1=some r):jq pr (X pr) 69 [.agg [.int .i64 a0.m0,.int .i64 a0.m1,.int .i64 a0.m2,.int .i64 a0.m3,.int .i64 a0.m4,.int .i64 a0.m5,.int .i64 a0.m6,.int .i64 a0.m7],.agg [.int .i64 a1.num,.int .i64 a1.den]] [.cells [(.int .i64 c0_0,false),(.int .i64 c0_1,false)]]=some (.tup [.agg [.int .i64 r.1.num,.int .i64 r.1.den],.int .i64 r.2],false,[.cells [(.int .i64 c0_0,false),(.int .i64 c0_1,false)],.cells [(.int .i64 r.1.num,false),(.int .i64 r.1.den,false)]]):=by
 unfold f69 at h
 rcases qr h with⟨h1,h⟩|⟨h1,h⟩
 ·have hr:(⟨0,0⟩,17)=r:=Option.some.inj h
  subst hr
  rw[qm (show pr.fns 69=some c69 from rfl) (by simp)]
  simp only[go_sem,seval,c69,h1]<;>rfl
 ·obtain⟨v2,h3,h⟩:=qc h
  have wh3:qd pr (X pr) 107 [.agg [.int .i64 a1.num,.int .i64 a1.den]]=some (.int .i64 v2,false):=qzn h3
  obtain⟨v4,h5,h⟩:=qc h
  have wh5:qd pr (X pr) 107 [.agg [.int .i64 a0.m0,.int .i64 a0.m1]]=some (.int .i64 v4,false):=qzn h5
  obtain⟨v6,h7,h⟩:=qc h
  have hr:(v6,0)=r:=Option.some.inj h
  subst hr
  rw[qm (show pr.fns 69=some c69 from rfl) (by simp)]
  simp only[go_sem,seval,c69,h1,wh3,wh5,jaz h7]<;>rfl
def f99 (a0:Option (List GEl))(a1:Int):Option (qco×Int):=
 qh (f96 a0) fun v1=>
 qh (qk3 a1) fun v3=>
 qh (qcr (some [v1,v3])) fun v5=>
 cond (decide (v5=0))
  (qh (qlt a0 a1) fun v8=>
  qh (qsy v8.1 v8.2 0 0 0 0) fun v10=>
  some (v10.1,v10.2))
  (some (⟨0,0,0,0⟩,v5))
theorem W99 {a0:Option (List GEl)}{a1:Int}{r}(h:f99 a0 a1=some r):qd pr (X pr) 99 [sl 3 vel a0,.int .i64 a1,.fn (.func 100) [] []]=some (.tup [.agg [.int .i64 r.1.a,.int .i64 r.1.b,.int .i64 r.1.c,.int .i64 r.1.d],.int .i64 r.2],false):=by
 unfold f99 at h
 obtain⟨v1,h2,h⟩:=qc h
 obtain⟨v3,h4,h⟩:=qc h
 obtain⟨v5,h6,h⟩:=qc h
 have wh6:qd pr (X pr) 103 [.list false 1 [.int .i64 v1,.int .i64 v3]]=some (.int .i64 v5,false):=qgp h6
 rcases qr h with⟨h7,h⟩|⟨h7,h⟩
 ·obtain⟨v8,h9,h⟩:=qc h
  obtain⟨v10,h11,h⟩:=qc h
  have wh11:jq pr (X pr) 100 [.agg [.int .i64 v8.1.m0,.int .i64 v8.1.m1,.int .i64 v8.1.m2,.int .i64 v8.1.m3,.int .i64 v8.1.m4,.int .i64 v8.1.m5,.int .i64 v8.1.m6,.int .i64 v8.1.m7],.agg [.int .i64 v8.2.num,.int .i64 v8.2.den]] [.cells [(.int .i64 0,false),(.int .i64 0,false),(.int .i64 0,false),(.int .i64 0,false)]]=some (.tup [.agg [.int .i64 v10.1.a,.int .i64 v10.1.b,.int .i64 v10.1.c,.int .i64 v10.1.d],.int .i64 v10.2],false,[.cells [(.int .i64 0,false),(.int .i64 0,false),(.int .i64 0,false),(.int .i64 0,false)],.cells [(.int .i64 v10.1.a,false),(.int .i64 v10.1.b,false),(.int .i64 v10.1.c,false),(.int .i64 v10.1.d,false)]]):=jam h11
  have hr:(v10.1,v10.2)=r:=Option.some.inj h
  subst hr
  refine jg rfl ?_ (fun _=>by first|rfl|simp only[go_sem,seval]) (by first|rfl|simp only[go_sem,seval])
  rw[qm (show pr.fns 99=some c99 from rfl) (by simp)]
  simp only[go_sem,seval,c99,W96 h2,qrg h4,wh6,h7,qzf h9,wh11]
  exact⟨_,rfl⟩
 ·have hr:(⟨0,0,0,0⟩,v5)=r:=Option.some.inj h
  subst hr
  refine jg rfl ?_ (fun _=>by first|rfl|simp only[go_sem,seval]) (by first|rfl|simp only[go_sem,seval])
  rw[qm (show pr.fns 99=some c99 from rfl) (by simp)]
  simp only[go_sem,seval,c99,W96 h2,qrg h4,wh6,h7]
  exact⟨_,rfl⟩
def f68 (a0:Option (List GEl))(a1:Int):Option (GRat×Int):=
 qh (f96 a0) fun v1=>
 qh (qk3 a1) fun v3=>
 qh (qcr (some [v1,v3])) fun v5=>
 cond (decide (v5=0))
  (qh (qlt a0 a1) fun v8=>
  qh (f69 v8.1 v8.2 0 0) fun v10=>
  some (v10.1,v10.2))
  (some (⟨0,0⟩,v5))
theorem W68 {a0:Option (List GEl)}{a1:Int}{r}(h:f68 a0 a1=some r):qd pr (X pr) 68 [sl 3 vel a0,.int .i64 a1,.fn (.func 69) [] []]=some (.tup [.agg [.int .i64 r.1.num,.int .i64 r.1.den],.int .i64 r.2],false):=by
 unfold f68 at h
 obtain⟨v1,h2,h⟩:=qc h
 obtain⟨v3,h4,h⟩:=qc h
 obtain⟨v5,h6,h⟩:=qc h
 have wh6:qd pr (X pr) 103 [.list false 1 [.int .i64 v1,.int .i64 v3]]=some (.int .i64 v5,false):=qgp h6
 rcases qr h with⟨h7,h⟩|⟨h7,h⟩
 ·obtain⟨v8,h9,h⟩:=qc h
  obtain⟨v10,h11,h⟩:=qc h
  have wh11:jq pr (X pr) 69 [.agg [.int .i64 v8.1.m0,.int .i64 v8.1.m1,.int .i64 v8.1.m2,.int .i64 v8.1.m3,.int .i64 v8.1.m4,.int .i64 v8.1.m5,.int .i64 v8.1.m6,.int .i64 v8.1.m7],.agg [.int .i64 v8.2.num,.int .i64 v8.2.den]] [.cells [(.int .i64 0,false),(.int .i64 0,false)]]=some (.tup [.agg [.int .i64 v10.1.num,.int .i64 v10.1.den],.int .i64 v10.2],false,[.cells [(.int .i64 0,false),(.int .i64 0,false)],.cells [(.int .i64 v10.1.num,false),(.int .i64 v10.1.den,false)]]):=W69 h11
  have hr:(v10.1,v10.2)=r:=Option.some.inj h
  subst hr
  refine jg rfl ?_ (fun _=>by first|rfl|simp only[go_sem,seval]) (by first|rfl|simp only[go_sem,seval])
  rw[qm (show pr.fns 68=some c68 from rfl) (by simp)]
  simp only[go_sem,seval,c68,W96 h2,qrg h4,wh6,h7,qzf h9,wh11]
  exact⟨_,rfl⟩
 ·have hr:(⟨0,0⟩,v5)=r:=Option.some.inj h
  subst hr
  refine jg rfl ?_ (fun _=>by first|rfl|simp only[go_sem,seval]) (by first|rfl|simp only[go_sem,seval])
  rw[qm (show pr.fns 68=some c68 from rfl) (by simp)]
  simp only[go_sem,seval,c68,W96 h2,qrg h4,wh6,h7]
  exact⟨_,rfl⟩
def f62 (a0:Option (List GEl))(a1:Int):Option (qco×Int):=
 qh (f99 a0 a1) fun v1=>
 some (v1.1,v1.2)
theorem W62 {a0:Option (List GEl)}{a1:Int}{r}(h:f62 a0 a1=some r):qd pr (X pr) 62 [sl 3 vel a0,.int .i64 a1]=some (.tup [.agg [.int .i64 r.1.a,.int .i64 r.1.b,.int .i64 r.1.c,.int .i64 r.1.d],.int .i64 r.2],false):=by
 unfold f62 at h
 obtain⟨v1,h2,h⟩:=qc h
 have wh2:qd pr (X pr) 99 [sl 3 vel a0,.int .i64 a1,.fn (.func 100) [] []]=some (.tup [.agg [.int .i64 v1.1.a,.int .i64 v1.1.b,.int .i64 v1.1.c,.int .i64 v1.1.d],.int .i64 v1.2],false):=W99 h2
 have hr:(v1.1,v1.2)=r:=Option.some.inj h
 subst hr
 refine jg rfl ?_ (fun _=>by first|rfl|simp only[go_sem,seval]) (by first|rfl|simp only[go_sem,seval])
 rw[qm (show pr.fns 62=some c62 from rfl) (by simp)]
 simp only[go_sem,seval,c62,wh2]
 exact⟨_,rfl⟩
def f28 (a0:Option (List GEl))(a1:Int):Option (GRat×Int):=
 qh (f68 a0 a1) fun v1=>
 some (v1.1,v1.2)
theorem W28 {a0:Option (List GEl)}{a1:Int}{r}(h:f28 a0 a1=some r):qd pr (X pr) 28 [sl 3 vel a0,.int .i64 a1]=some (.tup [.agg [.int .i64 r.1.num,.int .i64 r.1.den],.int .i64 r.2],false):=by
 unfold f28 at h
 obtain⟨v1,h2,h⟩:=qc h
 have wh2:qd pr (X pr) 68 [sl 3 vel a0,.int .i64 a1,.fn (.func 69) [] []]=some (.tup [.agg [.int .i64 v1.1.num,.int .i64 v1.1.den],.int .i64 v1.2],false):=W68 h2
 have hr:(v1.1,v1.2)=r:=Option.some.inj h
 subst hr
 refine jg rfl ?_ (fun _=>by first|rfl|simp only[go_sem,seval]) (by first|rfl|simp only[go_sem,seval])
 rw[qm (show pr.fns 28=some c28 from rfl) (by simp)]
 simp only[go_sem,seval,c28,wh2]
 exact⟨_,rfl⟩
def qlq (a0:Int)(a1:Int):Option (Int×Int):=
 qh (qhu .u64 a0 32) fun v1=>
 qh (qhu .u64 a1 32) fun v3=>
 qh (qhu .u64 (qa .u64 ((qgi .and .u64 a0 4294967295)*(qgi .and .u64 a1 4294967295))) 32) fun v5=>
 qh (qhu .u64 (qa .u64 ((qa .u64 (v1*(qgi .and .u64 a1 4294967295)))+v5)) 32) fun v7=>
 qh (qhu .u64 (qa .u64 ((qgi .and .u64 (qa .u64 ((qa .u64 (v1*(qgi .and .u64 a1 4294967295)))+v5)) 4294967295)+(qa .u64 ((qgi .and .u64 a0 4294967295)*v3)))) 32) fun v9=>
 some (qa .u64 ((qa .u64 ((qa .u64 (v1*v3))+v7))+v9),qa .u64 (a0*a1))
theorem q0t {a0:Int}{a1:Int}{r}(h:qlq a0 a1=some r):qd pr (X pr) 102 [.int .u64 a0,.int .u64 a1]=some (.tup [.int .u64 r.1,.int .u64 r.2],false):=by
 unfold qlq at h
 obtain⟨v1,h2,h⟩:=qc h
 obtain⟨v3,h4,h⟩:=qc h
 obtain⟨v5,h6,h⟩:=qc h
 obtain⟨v7,h8,h⟩:=qc h
 obtain⟨v9,h10,h⟩:=qc h
 have hr:(qa .u64 ((qa .u64 ((qa .u64 (v1*v3))+v7))+v9),qa .u64 (a0*a1))=r:=Option.some.inj h
 subst hr
 refine jg rfl ?_ (fun _=>by first|rfl|simp only[go_sem,seval]) (by first|rfl|simp only[go_sem,seval])
 rw[qm (show pr.fns 102=some c102 from rfl) (by simp)]
 simp only[go_sem,seval,c102,qf5 h2,qf5 h4,qf5 h6,qf5 h8,qf5 h10]
 exact⟨_,rfl⟩
def f67 (a0:GRat)(a1:GRat):Option Bool:=
 qh (qlq (qa .u64 a0.num) (qa .u64 a1.den)) fun v1=>
 qh (qlq (qa .u64 a1.num) (qa .u64 a0.den)) fun v3=>
 cond (decide (v3.1<v1.1))
  (some true)
  (cond (decide (v1.1=v3.1))
   (some (decide (v3.2<v1.2)))
   (some false))
theorem W67 {a0:GRat}{a1:GRat}{r}(h:f67 a0 a1=some r):qd pr (X pr) 67 [.agg [.int .i64 a0.num,.int .i64 a0.den],.agg [.int .i64 a1.num,.int .i64 a1.den]]=some (.bool r,false):=by
 unfold f67 at h
 obtain⟨v1,h2,h⟩:=qc h
 have wh2:qd pr (X pr) 102 [.int .u64 (qa .u64 a0.num),.int .u64 (qa .u64 a1.den)]=some (.tup [.int .u64 v1.1,.int .u64 v1.2],false):=q0t h2
 obtain⟨v3,h4,h⟩:=qc h
 have wh4:qd pr (X pr) 102 [.int .u64 (qa .u64 a1.num),.int .u64 (qa .u64 a0.den)]=some (.tup [.int .u64 v3.1,.int .u64 v3.2],false):=q0t h4
 rcases qr h with⟨h5,h⟩|⟨h5,h⟩
 ·have hr:true=r:=Option.some.inj h
  subst hr
  refine jg rfl ?_ (fun _=>by first|rfl|simp only[go_sem,seval]) (by first|rfl|simp only[go_sem,seval])
  rw[qm (show pr.fns 67=some c67 from rfl) (by simp)]
  simp only[go_sem,seval,c67,wh2,wh4,h5]
  exact⟨_,rfl⟩
 ·rcases qr h with⟨h6,h⟩|⟨h6,h⟩
  ·have hr:decide (v3.2<v1.2)=r:=Option.some.inj h
   subst hr
   refine jg rfl ?_ (fun _=>by first|rfl|simp only[go_sem,seval]) (by first|rfl|simp only[go_sem,seval])
   rw[qm (show pr.fns 67=some c67 from rfl) (by simp)]
   simp only[go_sem,seval,c67,wh2,wh4,h5,h6]
   exact⟨_,rfl⟩
  ·have hr:false=r:=Option.some.inj h
   subst hr
   refine jg rfl ?_ (fun _=>by first|rfl|simp only[go_sem,seval]) (by first|rfl|simp only[go_sem,seval])
   rw[qm (show pr.fns 67=some c67 from rfl) (by simp)]
   simp only[go_sem,seval,c67,wh2,wh4,h5,h6]
   exact⟨_,rfl⟩
def f60 (a0:Option (List GEl)):Option Int:=
 qh (f96 a0) fun v1=>
 qh (f55 (decide (2<((a0.getD []).length:Int))) 5) fun v3=>
 qh (f53 (some [v1,v3])) fun v5=>
 some v5
theorem W60 {a0:Option (List GEl)}{r}(h:f60 a0=some r):qd pr (X pr) 60 [sl 3 vel a0]=some (.int .i64 r,false):=by
 unfold f60 at h
 obtain⟨v1,h2,h⟩:=qc h
 obtain⟨v3,h4,h⟩:=qc h
 have wh4:qd pr (X pr) 55 [.bool (decide (2<((a0.getD []).length:Int))),.int .i64 5]=some (.int .i64 v3,false):=W55 h4
 obtain⟨v5,h6,h⟩:=qc h
 have wh6:qd pr (X pr) 53 [.list false 1 [.int .i64 v1,.int .i64 v3]]=some (.int .i64 v5,false):=W53 h6
 have hr:v5=r:=Option.some.inj h
 subst hr
 refine jg rfl ?_ (fun _=>by first|rfl|simp only[go_sem,seval]) (by first|rfl|simp only[go_sem,seval])
 rw[qm (show pr.fns 60=some c60 from rfl) (by simp)]
 simp only[go_sem,seval,c60,W96 h2,wh4,wh6]
 exact⟨_,rfl⟩
def f25 (a0:Option (List GEl))(a1:Option (List GEl))(a2:Int)(a3:Bool):Option (qco×Int):=
 qh (f60 a0) fun v1=>
 qh (f60 a1) fun v3=>
 qh (f61 a2) fun v5=>
 qh (f53 (some [v1,v3,v5])) fun v7=>
 cond (decide (v7=0))
  (qh (f62 a0 a2) fun v10=>
  cond (decide (v10.2=0))
   (qh (f62 a1 a2) fun v13=>
   cond (decide (v13.2=0))
    (cond a3
     (qh (f64 (⟨v10.1.a,v10.1.b⟩) (⟨v13.1.c,v13.1.d⟩)) fun v17=>
     qh (f64 (⟨v13.1.a,v13.1.b⟩) (⟨v10.1.c,v10.1.d⟩)) fun v19=>
     qh (f64 (⟨(-1),0⟩) v19) fun v21=>
     qh (f63 v17 v21) fun v23=>
     qh (f64 (⟨v10.1.c,v10.1.d⟩) (⟨v13.1.c,v13.1.d⟩)) fun v25=>
     some (⟨v23.num,v23.den,v25.num,v25.den⟩,0))
     (qh (f64 (⟨v10.1.a,v10.1.b⟩) (⟨v13.1.c,v13.1.d⟩)) fun v27=>
     qh (f64 (⟨v13.1.a,v13.1.b⟩) (⟨v10.1.c,v10.1.d⟩)) fun v29=>
     qh (f64 (⟨1,0⟩) v29) fun v31=>
     qh (f63 v27 v31) fun v33=>
     qh (f64 (⟨v10.1.c,v10.1.d⟩) (⟨v13.1.c,v13.1.d⟩)) fun v35=>
     some (⟨v33.num,v33.den,v35.num,v35.den⟩,0)))
    (some (⟨0,0,0,0⟩,v13.2)))
   (some (⟨0,0,0,0⟩,v10.2)))
  (some (⟨0,0,0,0⟩,v7))
theorem W25 {a0:Option (List GEl)}{a1:Option (List GEl)}{a2:Int}{a3:Bool}{r}(h:f25 a0 a1 a2 a3=some r):qd pr (X pr) 25 [sl 3 vel a0,sl 3 vel a1,.int .i64 a2,.bool a3]=some (.tup [.agg [.int .i64 r.1.a,.int .i64 r.1.b,.int .i64 r.1.c,.int .i64 r.1.d],.int .i64 r.2],false):=by
 unfold f25 at h
 obtain⟨v1,h2,h⟩:=qc h
 obtain⟨v3,h4,h⟩:=qc h
 obtain⟨v5,h6,h⟩:=qc h
 obtain⟨v7,h8,h⟩:=qc h
 have wh8:qd pr (X pr) 53 [.list false 1 [.int .i64 v1,.int .i64 v3,.int .i64 v5]]=some (.int .i64 v7,false):=W53 h8
 rcases qr h with⟨h9,h⟩|⟨h9,h⟩
 ·obtain⟨v10,h11,h⟩:=qc h
  rcases qr h with⟨h12,h⟩|⟨h12,h⟩
  ·obtain⟨v13,h14,h⟩:=qc h
   rcases qr h with⟨h15,h⟩|⟨h15,h⟩
   ·rcases qr h with⟨h16,h⟩|⟨h16,h⟩
    ·obtain⟨v17,h18,h⟩:=qc h
     have wh18:qd pr (X pr) 64 [.agg [.int .i64 v10.1.a,.int .i64 v10.1.b],.agg [.int .i64 v13.1.c,.int .i64 v13.1.d]]=some (.agg [.int .i64 v17.num,.int .i64 v17.den],false):=W64 h18
     obtain⟨v19,h20,h⟩:=qc h
     have wh20:qd pr (X pr) 64 [.agg [.int .i64 v13.1.a,.int .i64 v13.1.b],.agg [.int .i64 v10.1.c,.int .i64 v10.1.d]]=some (.agg [.int .i64 v19.num,.int .i64 v19.den],false):=W64 h20
     obtain⟨v21,h22,h⟩:=qc h
     have wh22:qd pr (X pr) 64 [.agg [.int .i64 (-1),.int .i64 0],.agg [.int .i64 v19.num,.int .i64 v19.den]]=some (.agg [.int .i64 v21.num,.int .i64 v21.den],false):=W64 h22
     obtain⟨v23,h24,h⟩:=qc h
     have wh24:qd pr (X pr) 63 [.agg [.int .i64 v17.num,.int .i64 v17.den],.agg [.int .i64 v21.num,.int .i64 v21.den]]=some (.agg [.int .i64 v23.num,.int .i64 v23.den],false):=W63 h24
     obtain⟨v25,h26,h⟩:=qc h
     have wh26:qd pr (X pr) 64 [.agg [.int .i64 v10.1.c,.int .i64 v10.1.d],.agg [.int .i64 v13.1.c,.int .i64 v13.1.d]]=some (.agg [.int .i64 v25.num,.int .i64 v25.den],false):=W64 h26
     have hr:(⟨v23.num,v23.den,v25.num,v25.den⟩,0)=r:=Option.some.inj h
     subst hr
     refine jg rfl ?_ (fun _=>by first|rfl|simp only[go_sem,seval]) (by first|rfl|simp only[go_sem,seval])
     rw[qm (show pr.fns 25=some c25 from rfl) (by simp)]
     simp only[go_sem,seval,c25,W60 h2,W60 h4,W61 h6,wh8,h9,W62 h11,h12,W62 h14,h15,h16,wh18,wh20,wh22,wh24,wh26]
     exact⟨_,rfl⟩
    ·obtain⟨v27,h28,h⟩:=qc h
     have wh28:qd pr (X pr) 64 [.agg [.int .i64 v10.1.a,.int .i64 v10.1.b],.agg [.int .i64 v13.1.c,.int .i64 v13.1.d]]=some (.agg [.int .i64 v27.num,.int .i64 v27.den],false):=W64 h28
     obtain⟨v29,h30,h⟩:=qc h
     have wh30:qd pr (X pr) 64 [.agg [.int .i64 v13.1.a,.int .i64 v13.1.b],.agg [.int .i64 v10.1.c,.int .i64 v10.1.d]]=some (.agg [.int .i64 v29.num,.int .i64 v29.den],false):=W64 h30
     obtain⟨v31,h32,h⟩:=qc h
     have wh32:qd pr (X pr) 64 [.agg [.int .i64 1,.int .i64 0],.agg [.int .i64 v29.num,.int .i64 v29.den]]=some (.agg [.int .i64 v31.num,.int .i64 v31.den],false):=W64 h32
     obtain⟨v33,h34,h⟩:=qc h
     have wh34:qd pr (X pr) 63 [.agg [.int .i64 v27.num,.int .i64 v27.den],.agg [.int .i64 v31.num,.int .i64 v31.den]]=some (.agg [.int .i64 v33.num,.int .i64 v33.den],false):=W63 h34
     obtain⟨v35,h36,h⟩:=qc h
     have wh36:qd pr (X pr) 64 [.agg [.int .i64 v10.1.c,.int .i64 v10.1.d],.agg [.int .i64 v13.1.c,.int .i64 v13.1.d]]=some (.agg [.int .i64 v35.num,.int .i64 v35.den],false):=W64 h36
     have hr:(⟨v33.num,v33.den,v35.num,v35.den⟩,0)=r:=Option.some.inj h
     subst hr
     refine jg rfl ?_ (fun _=>by first|rfl|simp only[go_sem,seval]) (by first|rfl|simp only[go_sem,seval])
     rw[qm (show pr.fns 25=some c25 from rfl) (by simp)]
     simp only[go_sem,seval,c25,W60 h2,W60 h4,W61 h6,wh8,h9,W62 h11,h12,W62 h14,h15,h16,wh28,wh30,wh32,wh34,wh36]
     exact⟨_,rfl⟩
   ·have hr:(⟨0,0,0,0⟩,v13.2)=r:=Option.some.inj h
    subst hr
    refine jg rfl ?_ (fun _=>by first|rfl|simp only[go_sem,seval]) (by first|rfl|simp only[go_sem,seval])
    rw[qm (show pr.fns 25=some c25 from rfl) (by simp)]
    simp only[go_sem,seval,c25,W60 h2,W60 h4,W61 h6,wh8,h9,W62 h11,h12,W62 h14,h15]
    exact⟨_,rfl⟩
  ·have hr:(⟨0,0,0,0⟩,v10.2)=r:=Option.some.inj h
   subst hr
   refine jg rfl ?_ (fun _=>by first|rfl|simp only[go_sem,seval]) (by first|rfl|simp only[go_sem,seval])
   rw[qm (show pr.fns 25=some c25 from rfl) (by simp)]
   simp only[go_sem,seval,c25,W60 h2,W60 h4,W61 h6,wh8,h9,W62 h11,h12]
   exact⟨_,rfl⟩
 ·have hr:(⟨0,0,0,0⟩,v7)=r:=Option.some.inj h
  subst hr
  refine jg rfl ?_ (fun _=>by first|rfl|simp only[go_sem,seval]) (by first|rfl|simp only[go_sem,seval])
  rw[qm (show pr.fns 25=some c25 from rfl) (by simp)]
  simp only[go_sem,seval,c25,W60 h2,W60 h4,W61 h6,wh8,h9]
  exact⟨_,rfl⟩
def f26 (a0:Option (List GEl))(a1:Option (List GEl))(a2:Int)(a3:Bool):Option (GRat×Int):=
 qh (f25 a0 a1 a2 a3) fun v1=>
 cond (decide (v1.2=0))
  (qh (f66 (⟨v1.1.a,v1.1.b⟩)) fun v4=>
  qh (f66 (⟨v1.1.c,v1.1.d⟩)) fun v6=>
  qh (f65 v4 v6) fun v8=>
  some (v8,0))
  (some (⟨0,0⟩,v1.2))
theorem W26 {a0:Option (List GEl)}{a1:Option (List GEl)}{a2:Int}{a3:Bool}{r}(h:f26 a0 a1 a2 a3=some r):qd pr (X pr) 26 [sl 3 vel a0,sl 3 vel a1,.int .i64 a2,.bool a3]=some (.tup [.agg [.int .i64 r.1.num,.int .i64 r.1.den],.int .i64 r.2],false):=by
 unfold f26 at h
 obtain⟨v1,h2,h⟩:=qc h
 rcases qr h with⟨h3,h⟩|⟨h3,h⟩
 ·obtain⟨v4,h5,h⟩:=qc h
  have wh5:qd pr (X pr) 66 [.agg [.int .i64 v1.1.a,.int .i64 v1.1.b]]=some (.int .i64 v4,false):=W66 h5
  obtain⟨v6,h7,h⟩:=qc h
  have wh7:qd pr (X pr) 66 [.agg [.int .i64 v1.1.c,.int .i64 v1.1.d]]=some (.int .i64 v6,false):=W66 h7
  obtain⟨v8,h9,h⟩:=qc h
  have hr:(v8,0)=r:=Option.some.inj h
  subst hr
  refine jg rfl ?_ (fun _=>by first|rfl|simp only[go_sem,seval]) (by first|rfl|simp only[go_sem,seval])
  rw[qm (show pr.fns 26=some c26 from rfl) (by simp)]
  simp only[go_sem,seval,c26,W25 h2,h3,wh5,wh7,W65 h9]
  exact⟨_,rfl⟩
 ·have hr:(⟨0,0⟩,v1.2)=r:=Option.some.inj h
  subst hr
  refine jg rfl ?_ (fun _=>by first|rfl|simp only[go_sem,seval]) (by first|rfl|simp only[go_sem,seval])
  rw[qm (show pr.fns 26=some c26 from rfl) (by simp)]
  simp only[go_sem,seval,c26,W25 h2,h3]
  exact⟨_,rfl⟩
def qec (a0:Option (List GEl))(a1:Option (List GEl))(a3:Int)(s0:Int×Int):Option ((Int×Int)⊕((Int×Int×Int×Int×Int)⊕(Int×Int))):=
 cond (decide (s0.2≤a3))
  (qh (f28 a0 s0.2) fun v38=>
  qh (f28 a1 s0.2) fun v40=>
  qh (f53 (some [v38.2,v40.2])) fun v42=>
  cond (decide (v42=0))
   (cond (decide (s0.1=0))
    (qh (f67 v38.1 v40.1) fun v46=>
    cond v46
     (some (.inl (s0.1,qa .i64 (s0.2+1))))
     (some (.inl (s0.2,qa .i64 (s0.2+1)))))
    (some (.inl (s0.1,qa .i64 (s0.2+1)))))
   (some (.inr (.inl (v42,v38.1.num,v38.1.den,v40.1.num,v40.1.den)))))
  (some (.inr (.inr (s0.1,s0.2))))
def qar (a0:Option (List GEl))(a1:Option (List GEl))(a3:Int)(s0:Int×Int):ASt:=⟨[(0,sl 3 vel a0,false),(1,sl 3 vel a1,false),(3,.int .i64 a3,false),(11,.int .i64 s0.1,false),(12,.int .i64 s0.2,false)],[]⟩
def qjz (a0:Option (List GEl))(a1:Option (List GEl))(a3:Int):(Int×Int×Int×Int×Int)⊕(Int×Int)→jo×ASt
 | .inl d=>(.ret,⟨[(8,.int .i64 0,false),(9,.int .i64 d.1,false)],[.cells [(.int .i64 d.2.1,false),(.int .i64 d.2.2.1,false)],.cells [(.int .i64 d.2.2.2.1,false),(.int .i64 d.2.2.2.2,false)]]⟩)
 | .inr d=>(.exit 0,⟨[(0,sl 3 vel a0,false),(1,sl 3 vel a1,false),(3,.int .i64 a3,false),(11,.int .i64 d.1,false),(12,.int .i64 d.2,false),(37,.bool false,false)],[]⟩)
theorem q4d (a0:Option (List GEl))(a1:Option (List GEl))(a3:Int)(s0:Int×Int)(r)(h:qec a0 a1 a3 s0=some r):qbm pr qc9 (qar a0 a1 a3) (qjz a0 a1 a3) s0 r:=by
 unfold qec at h
 rcases qr h with⟨h37,h⟩|⟨h37,h⟩
 ·obtain⟨v38,h39,h⟩:=qc h
  have wh39:qd pr (X pr) 28 [sl 3 vel a0,.int .i64 s0.2]=some (.tup [.agg [.int .i64 v38.1.num,.int .i64 v38.1.den],.int .i64 v38.2],false):=W28 h39
  obtain⟨v40,h41,h⟩:=qc h
  have wh41:qd pr (X pr) 28 [sl 3 vel a1,.int .i64 s0.2]=some (.tup [.agg [.int .i64 v40.1.num,.int .i64 v40.1.den],.int .i64 v40.2],false):=W28 h41
  obtain⟨v42,h43,h⟩:=qc h
  have wh43:qd pr (X pr) 53 [.list false 1 [.int .i64 v38.2,.int .i64 v40.2]]=some (.int .i64 v42,false):=W53 h43
  rcases qr h with⟨h44,h⟩|⟨h44,h⟩
  ·rcases qr h with⟨h45,h⟩|⟨h45,h⟩
   ·obtain⟨v46,h47,h⟩:=qc h
    have wh47:qd pr (X pr) 67 [.agg [.int .i64 v38.1.num,.int .i64 v38.1.den],.agg [.int .i64 v40.1.num,.int .i64 v40.1.den]]=some (.bool v46,false):=W67 h47
    rcases qr h with⟨h48,h⟩|⟨h48,h⟩
    ·cases h
     exact zz (st':=⟨[(0,sl 3 vel a0,false),(1,sl 3 vel a1,false),(3,.int .i64 a3,false),(11,.int .i64 s0.1,false),(12,.int .i64 (qa .i64 (s0.2+1)),false)],[]++[.cells [(.int .i64 v38.1.num,false),(.int .i64 v38.1.den,false)],.cells [(.int .i64 v40.1.num,false),(.int .i64 v40.1.den,false)]]⟩) (by simp only[go_sem,seval,qc9,qar,h37,wh39,wh41,wh43,h44,h45,wh47,h48]<;>rfl) (qai rfl rfl (by first|simp only[go_sem,seval,qar]|rfl) (by first|simp only[go_sem,seval,qar]|rfl))
    ·cases h
     exact zz (st':=⟨[(0,sl 3 vel a0,false),(1,sl 3 vel a1,false),(3,.int .i64 a3,false),(11,.int .i64 s0.2,false),(12,.int .i64 (qa .i64 (s0.2+1)),false)],[]++[.cells [(.int .i64 v38.1.num,false),(.int .i64 v38.1.den,false)],.cells [(.int .i64 v40.1.num,false),(.int .i64 v40.1.den,false)]]⟩) (by simp only[go_sem,seval,qc9,qar,h37,wh39,wh41,wh43,h44,h45,wh47,h48]<;>rfl) (qai rfl rfl (by first|simp only[go_sem,seval,qar]|rfl) (by first|simp only[go_sem,seval,qar]|rfl))
   ·cases h
    exact zz (st':=⟨[(0,sl 3 vel a0,false),(1,sl 3 vel a1,false),(3,.int .i64 a3,false),(11,.int .i64 s0.1,false),(12,.int .i64 (qa .i64 (s0.2+1)),false)],[]++[.cells [(.int .i64 v38.1.num,false),(.int .i64 v38.1.den,false)],.cells [(.int .i64 v40.1.num,false),(.int .i64 v40.1.den,false)]]⟩) (by simp only[go_sem,seval,qc9,qar,h37,wh39,wh41,wh43,h44,h45]<;>rfl) (qai rfl rfl (by first|simp only[go_sem,seval,qar]|rfl) (by first|simp only[go_sem,seval,qar]|rfl))
  ·cases h
   exact zi (by simp only[go_sem,seval,qc9,qar,h37,wh39,wh41,wh43,h44,qjz]<;>rfl)
 ·cases h
  exact zi (by simp only[go_sem,seval,qc9,qar,h37,qjz]<;>rfl)
theorem qxf (a0:Option (List GEl))(a1:Option (List GEl))(a3:Int){s0:Int×Int}{d}(h:itO (qec a0 a1 a3) s0=some d):X pr (.loop qc9) (qar a0 a1 a3 s0)=some (qjz a0 a1 a3 d):=qd6 (q4d a0 a1 a3) (fun d=>by rcases d with d|d<;>(intro hh;cases hh)) h
def f27 (a0:Option (List GEl))(a1:Option (List GEl))(a2:Int)(a3:Int):Option (Int×Int):=
 qh (f60 a0) fun v1=>
 qh (f60 a1) fun v3=>
 qh (f61 a2) fun v5=>
 qh (f61 a3) fun v7=>
 qh (f55 (decide (a3<a2)) 11) fun v9=>
 qh (f53 (some [v1,v3,v5,v7,v9])) fun v11=>
 cond (decide (v11=0))
  (qh (itO (qec a0 a1 a3) (0,a2)) fun d49=>match d49 with
   | .inl d51=>
    some (0,d51.1)
   | .inr d52=>
    qh (f55 (decide (d52.1=0)) 7) fun v53=>
    some (d52.1,v53))
  (some (0,v11))
theorem W27 {a0:Option (List GEl)}{a1:Option (List GEl)}{a2:Int}{a3:Int}{r}(h:f27 a0 a1 a2 a3=some r):qd pr (X pr) 27 [sl 3 vel a0,sl 3 vel a1,.int .i64 a2,.int .i64 a3]=some (.tup [.int .i64 r.1,.int .i64 r.2],false):=by
 unfold f27 at h
 obtain⟨v1,h2,h⟩:=qc h
 obtain⟨v3,h4,h⟩:=qc h
 obtain⟨v5,h6,h⟩:=qc h
 obtain⟨v7,h8,h⟩:=qc h
 obtain⟨v9,h10,h⟩:=qc h
 have wh10:qd pr (X pr) 55 [.bool (decide (a3<a2)),.int .i64 11]=some (.int .i64 v9,false):=W55 h10
 obtain⟨v11,h12,h⟩:=qc h
 have wh12:qd pr (X pr) 53 [.list false 1 [.int .i64 v1,.int .i64 v3,.int .i64 v5,.int .i64 v7,.int .i64 v9]]=some (.int .i64 v11,false):=W53 h12
 rcases qr h with⟨h13,h⟩|⟨h13,h⟩
 ·obtain⟨d49,h50,h⟩:=qc h
  rcases d49 with d51|d52
  ·have wh50:X pr (.loop qc9) ⟨[(0,sl 3 vel a0,false),(1,sl 3 vel a1,false),(3,.int .i64 a3,false),(11,.int .i64 0,false),(12,.int .i64 a2,false)],[]⟩=some (.ret,⟨[(8,.int .i64 0,false),(9,.int .i64 d51.1,false)],[.cells [(.int .i64 d51.2.1,false),(.int .i64 d51.2.2.1,false)],.cells [(.int .i64 d51.2.2.2.1,false),(.int .i64 d51.2.2.2.2,false)]]⟩):=qxf a0 a1 a3 h50
   have hr:(0,d51.1)=r:=Option.some.inj h
   subst hr
   refine jg rfl ?_ (fun _=>by first|rfl|simp only[go_sem,seval]) (by first|rfl|simp only[go_sem,seval])
   rw[qm (show pr.fns 27=some c27 from rfl) (by simp)]
   simp only[go_sem,seval,c27,W60 h2,W60 h4,W61 h6,W61 h8,wh10,wh12,h13,wh50]
   exact⟨_,rfl⟩
  ·have wh50:X pr (.loop qc9) ⟨[(0,sl 3 vel a0,false),(1,sl 3 vel a1,false),(3,.int .i64 a3,false),(11,.int .i64 0,false),(12,.int .i64 a2,false)],[]⟩=some (.exit 0,⟨[(0,sl 3 vel a0,false),(1,sl 3 vel a1,false),(3,.int .i64 a3,false),(11,.int .i64 d52.1,false),(12,.int .i64 d52.2,false),(37,.bool false,false)],[]⟩):=qxf a0 a1 a3 h50
   obtain⟨v53,h54,h⟩:=qc h
   have wh54:qd pr (X pr) 55 [.bool (decide (d52.1=0)),.int .i64 7]=some (.int .i64 v53,false):=W55 h54
   have hr:(d52.1,v53)=r:=Option.some.inj h
   subst hr
   refine jg rfl ?_ (fun _=>by first|rfl|simp only[go_sem,seval]) (by first|rfl|simp only[go_sem,seval])
   rw[qm (show pr.fns 27=some c27 from rfl) (by simp)]
   simp only[go_sem,seval,c27,W60 h2,W60 h4,W61 h6,W61 h8,wh10,wh12,h13,wh50,wh54]
   exact⟨_,rfl⟩
 ·have hr:(0,v11)=r:=Option.some.inj h
  subst hr
  refine jg rfl ?_ (fun _=>by first|rfl|simp only[go_sem,seval]) (by first|rfl|simp only[go_sem,seval])
  rw[qm (show pr.fns 27=some c27 from rfl) (by simp)]
  simp only[go_sem,seval,c27,W60 h2,W60 h4,W61 h6,W61 h8,wh10,wh12,h13]
  exact⟨_,rfl⟩
end Go.Z
end
