/- Chapter 4. -/
import Derived.Test.YtnjngdcbkkonnaaGreatDoorA13
import Derived.Test.YtnjngdcbkkonnaaGreatDoorA1
set_option linter.unusedVariables false
set_option linter.unusedSimpArgs false
set_option maxRecDepth 100000
set_option maxHeartbeats 4000000
noncomputable section
namespace Go.Z
open Go Go.Abs
def f161 (a0:TI):Option (TI×Bool):=
 cond a0.isNone
  (some (none,false))
  (j5 (apO (some []) (a0.getD [])) fun v2=>
  some (v2,true))
theorem j4i {a0:TI}{r}(h:f161 a0=some r):zb pr (X pr) 161 [sl 1 zg a0]=some (sl 1 zg r.1,r.2):=by
 unfold f161 at h
 rcases j4 h with⟨h1,h⟩|⟨h1,h⟩
 ·obtain rfl:=oi h
  refine qdm c161 ?_
  simp only[go_sem,seval,c161,h1]
  exact⟨_,rfl⟩
 obtain⟨v2,h3,h⟩:=j0 h
 obtain rfl:=oi h
 refine qdm c161 ?_
 simp only[go_sem,seval,c161,h1,qrz h3]
 exact⟨_,rfl⟩
def qpy (a0:TP)(a1:TP)(s0:Int):Option (Int⊕(Unit⊕Int)):=
 cond (decide (s0<((a0.getD []).length:Int)))
  (j5 (yo (a0.getD []) s0) fun v15=>
  j5 (yo (a1.getD []) s0) fun v17=>
  cond (decide (v15.name=v17.name)&&decide (v15.kd=v17.kd)&&decide (v15.pa=v17.pa)&&decide (v15.pb=v17.pb)&&decide (v15.sa=v17.sa)&&decide (v15.sb=v17.sb)&&decide (v15.cost=v17.cost)&&decide (v15.stock=v17.stock))
   (some (.inl (j9 .i64 (s0+1))))
   (some (.inr (.inl ()))))
  (some (.inr (.inr s0)))
def qll (a0:TP)(a1:TP)(s0:Int):qd:=⟨[(0,sl 8 zd a0,false),(1,sl 8 zd a1,false),(5,Iv s0,false)],[]⟩
def qod (a0:TP)(a1:TP):Unit⊕Int→qj×qd
 | .inl d=>(.ret,⟨[(4,.bool false,false)],[]⟩)
 | .inr d=>(.exit 0,⟨[(0,sl 8 zd a0,false),(1,sl 8 zd a1,false),(5,Iv d,false),(14,.bool false,false)],[]⟩)
theorem jrk (a0:TP)(a1:TP)(s0:Int)(r)(h:qpy a0 a1 s0=some r):yt pr qty (qll a0 a1) (qod a0 a1) s0 r:=by
 unfold qpy at h
 rcases j4 h with⟨h14,h⟩|⟨h14,h⟩
 ·obtain⟨v15,h16,h⟩:=j0 h
  obtain⟨v17,h18,h⟩:=j0 h
  rcases j4 h with⟨h19,h⟩|⟨h19,h⟩
  ·cases h
   exact zq (by simp only[go_sem,seval,qty,qll,h14,zm h16,zm h18,h19]<;>rfl)
  cases h
  exact zc (by simp only[go_sem,seval,qty,qll,h14,zm h16,zm h18,h19,qod]<;>rfl)
 cases h
 exact zc (by simp only[go_sem,seval,qty,qll,h14,qod]<;>rfl)
theorem jhi (a0:TP)(a1:TP){s0:Int}{d}(h:itO (qpy a0 a1) s0=some d):X pr (.loop qty) (qll a0 a1 s0)=some (qod a0 a1 d):=kg (jrk a0 a1) (fun d=>by rcases d with d|d<;>(intro hh;cases hh)) h
def f74 (a0:TP)(a1:TP):Option Bool:=
 cond (decide (((a0.getD []).length:Int)=((a1.getD []).length:Int)))
  (j5 (itO (qpy a0 a1) 0) fun d20=>match d20 with
   | .inl d22=>
    some false
   | .inr d23=>
    some true)
  (some false)
theorem W74 {a0:TP}{a1:TP}{r}(h:f74 a0 a1=some r):zb pr (X pr) 74 [sl 8 zd a0,sl 8 zd a1]=some (.bool r,false):=by
 unfold f74 at h
 rcases j4 h with⟨h1,h⟩|⟨h1,h⟩
 ·obtain⟨d20,h21,h⟩:=j0 h
  rcases d20 with d22|d23
  ·have wh21:=jhi a0 a1 h21
   dsimp only[qll,qod]at wh21
   obtain rfl:=oi h
   refine zk c74 ?_
   simp only[go_sem,seval,c74,h1,wh21]
   exact⟨_,rfl⟩
  have wh21:=jhi a0 a1 h21
  dsimp only[qll,qod]at wh21
  obtain rfl:=oi h
  refine zk c74 ?_
  simp only[go_sem,seval,c74,h1,wh21]
  exact⟨_,rfl⟩
 obtain rfl:=oi h
 refine zk c74 ?_
 simp only[go_sem,seval,c74,h1]
 exact⟨_,rfl⟩
def qq1 (a0:TP)(s0:TP×Int×Bool):Option ((TP×Int×Bool)⊕((TP×Bool×Int))):=
 cond (decide (s0.2.1<((a0.getD []).length:Int)))
  (j5 (yo (a0.getD []) s0.2.1) fun v14=>
  cond s0.2.2
   (j5 (apO s0.1 [v14]) fun v17=>
   some (.inl (v17,j9 .i64 (s0.2.1+1),true)))
   (cond s0.1.isNone
    (j5 (apO s0.1 [v14]) fun v20=>
    some (.inl (v20,j9 .i64 (s0.2.1+1),true)))
    (none)))
  (some (.inr (s0.1,s0.2.2,s0.2.1)))
def qga (a0:TP)(s0:TP×Int×Bool):qd:=⟨[(3,sl 8 zd s0.1,s0.2.2),(6,sl 8 zd a0,false),(7,Lv a0,false),(8,Iv s0.2.1,false)],[]⟩
def qyg (a0:TP)(d:(TP×Bool×Int)):qj×qd:=(.exit 0,⟨[(3,sl 8 zd d.1,d.2.1),(6,sl 8 zd a0,false),(7,Lv a0,false),(8,Iv d.2.2,false),(9,.bool false,false)],[]⟩)
theorem jq8 (a0:TP)(s0:TP×Int×Bool)(r)(h:qq1 a0 s0=some r):yt pr qtv (qga a0) (qyg a0) s0 r:=by
 unfold qq1 at h
 rcases j4 h with⟨h13,h⟩|⟨h13,h⟩
 ·obtain⟨v14,h15,h⟩:=j0 h
  rcases j4 h with⟨h16,h⟩|⟨h16,h⟩
  ·obtain⟨v17,h18,h⟩:=j0 h
   cases h
   exact qag (by simp only[go_sem,seval,qtv,qga,h13,zm h15,h16,qnp h18];exact⟨_,rfl⟩) rfl (by first|simp only[go_sem,seval,qga]|rfl) (by first|simp only[go_sem,seval,qga]|rfl)
  rcases j4 h with⟨h19,h⟩|⟨h19,h⟩
  ·obtain⟨v20,h21,h⟩:=j0 h
   cases h
   exact qag (by simp only[go_sem,seval,qtv,qga,h13,zm h15,h16,h19,qnm h21 h19];exact⟨_,rfl⟩) rfl (by first|simp only[go_sem,seval,qga]|rfl) (by first|simp only[go_sem,seval,qga]|rfl)
  cases h
 cases h
 exact zc (by simp only[go_sem,seval,qtv,qga,h13,qyg]<;>rfl)
theorem jti (a0:TP){s0:TP×Int×Bool}{d}(h:itO (qq1 a0) s0=some d):X pr (.loop qtv) (qga a0 s0)=some (qyg a0 d):=kg (jq8 a0) (fun d hh=>by cases hh) h
def f75 (a0:TP):Option (TP×Bool):=
 j5 (itO (qq1 a0) (none,0,false)) fun d22=>
 some (d22.1,d22.2.1)
theorem W75 {a0:TP}{r}(h:f75 a0=some r):zb pr (X pr) 75 [sl 8 zd a0]=some (sl 8 zd r.1,r.2):=by
 unfold f75 at h
 obtain⟨d22,h23,h⟩:=j0 h
 have wh23:=jti a0 h23
 dsimp only[qga,qyg,ql7]at wh23
 obtain rfl:=oi h
 refine qdm c75 ?_
 simp only[go_sem,seval,c75,wh23]
 exact⟨_,rfl⟩
def qju (a0:TE)(a1:ql)(s0:Int):Option (Int⊕(Int⊕Int)):=
 cond (decide (s0<((a0.getD []).length:Int)))
  (j5 (yo (a0.getD []) s0) fun v10=>
  cond (decide (a1.kind=v10.kind)&&decide (a1.a=v10.a)&&decide (a1.b=v10.b))
   (some (.inr (.inl s0)))
   (some (.inl (j9 .i64 (s0+1)))))
  (some (.inr (.inr s0)))
def qic (a0:TE)(a1:ql)(s0:Int):qd:=⟨[(0,sl 3 vel a0,false),(3,.vptr (.agg [.str a1.kind,Iv a1.a,Iv a1.b]),false),(7,Lv a0,false),(8,Iv s0,false)],[]⟩
def qkr (a0:TE)(a1:ql):Int⊕Int→qj×qd
 | .inl d=>(.ret,⟨[(4,Iv d,false)],[]⟩)
 | .inr d=>(.exit 0,⟨[(0,sl 3 vel a0,false),(3,.vptr (.agg [.str a1.kind,Iv a1.a,Iv a1.b]),false),(7,Lv a0,false),(8,Iv d,false),(9,.bool false,false)],[]⟩)
theorem jl9 (a0:TE)(a1:ql)(s0:Int)(r)(h:qju a0 a1 s0=some r):yt pr qpa (qic a0 a1) (qkr a0 a1) s0 r:=by
 unfold qju at h
 rcases j4 h with⟨h9,h⟩|⟨h9,h⟩
 ·obtain⟨v10,h11,h⟩:=j0 h
  rcases j4 h with⟨h12,h⟩|⟨h12,h⟩
  ·cases h
   exact zc (by simp only[go_sem,seval,qpa,qic,h9,zm h11,h12,qkr]<;>rfl)
  cases h
  exact zq (by simp only[go_sem,seval,qpa,qic,h9,zm h11,h12]<;>rfl)
 cases h
 exact zc (by simp only[go_sem,seval,qpa,qic,h9,qkr]<;>rfl)
theorem jby (a0:TE)(a1:ql){s0:Int}{d}(h:itO (qju a0 a1) s0=some d):X pr (.loop qpa) (qic a0 a1 s0)=some (qkr a0 a1 d):=kg (jl9 a0 a1) (fun d=>by rcases d with d|d<;>(intro hh;cases hh)) h
def f209 (a0:TE)(a1:ql):Option Int:=
 j5 (itO (qju a0 a1) 0) fun d13=>match d13 with
  | .inl d15=>
   some d15
  | .inr d16=>
   some (-1)
theorem j4e {a0:TE}{a1:ql}{r}(h:f209 a0 a1=some r):zb pr (X pr) 209 [sl 3 vel a0,.agg [.str a1.kind,Iv a1.a,Iv a1.b]]=some (Iv r,false):=by
 unfold f209 at h
 obtain⟨d13,h14,h⟩:=j0 h
 rcases d13 with d15|d16
 ·have wh14:=jby a0 a1 h14
  dsimp only[qic,qkr]at wh14
  obtain rfl:=oi h
  refine zk c209 ?_
  simp only[go_sem,seval,c209,wh14]
  exact⟨_,rfl⟩
 have wh14:=jby a0 a1 h14
 dsimp only[qic,qkr]at wh14
 obtain rfl:=oi h
 refine zk c209 ?_
 simp only[go_sem,seval,c209,wh14]
 exact⟨_,rfl⟩
def f179 (a0:TE)(a1:ql):Option Bool:=
 j5 (f209 a0 a1) fun v1=>
 some (decide (0≤v1))
theorem j3o {a0:TE}{a1:ql}{r}(h:f179 a0 a1=some r):zb pr (X pr) 179 [sl 3 vel a0,.agg [.str a1.kind,Iv a1.a,Iv a1.b]]=some (.bool r,false):=by
 unfold f179 at h
 obtain⟨v1,h2,h⟩:=j0 h
 have wh2:=j4e h2
 obtain rfl:=oi h
 refine zk c179 ?_
 simp only[go_sem,seval,c179,wh2]
 exact⟨_,rfl⟩
def f178 (a0:ql)(c0_0:TE)(o0_0:Bool):Option Bool:=
 j5 (f179 c0_0 a0) fun v1=>
 some (!v1)
theorem j3q {a0:ql}{c0_0:TE}{o0_0:Bool}{r}(h:f178 a0 c0_0 o0_0=some r):ye pr (X pr) 178 [.agg [.str a0.kind,Iv a0.a,Iv a0.b],.ptr 0 0] [.cells [(sl 3 vel c0_0,o0_0)]]=some (.bool r,false,[.cells [(sl 3 vel c0_0,o0_0)]]):=by
 unfold f178 at h
 obtain⟨v1,h2,h⟩:=j0 h
 have wh2:=j3o h2
 have hr:(!v1)=r:=Option.some.inj h
 subst hr
 rw[kr (show pr.fns 178=some c178 from rfl) (by simp)]
 simp only[go_sem,seval,c178,wh2]<;>rfl
def qia (a0:TE)(c0_0:TE)(o0_0:Bool)(s0:Int):Option (Int⊕(Int⊕Int)):=
 cond (decide (s0<((a0.getD []).length:Int)))
  (j5 (yo (a0.getD []) s0) fun v14=>
  j5 (f178 v14 c0_0 o0_0) fun v16=>
  cond v16
   (some (.inr (.inl s0)))
   (some (.inl (j9 .i64 (s0+1)))))
  (some (.inr (.inr s0)))
def qgk (a0:TE)(c0_0:TE)(o0_0:Bool)(s0:Int):qd:=⟨[(0,sl 3 vel a0,false),(1,.fn (.func 178) [] [.ptr 0 0],false),(7,Lv a0,false),(8,Iv s0,false)],[.cells [(sl 3 vel c0_0,o0_0)]]⟩
def qim (a0:TE)(c0_0:TE)(o0_0:Bool):Int⊕Int→qj×qd
 | .inl d=>(.ret,⟨[(4,Iv d,false)],[.cells [(sl 3 vel c0_0,o0_0)]]⟩)
 | .inr d=>(.exit 0,⟨[(0,sl 3 vel a0,false),(1,.fn (.func 178) [] [.ptr 0 0],false),(7,Lv a0,false),(8,Iv d,false),(9,.bool false,false)],[.cells [(sl 3 vel c0_0,o0_0)]]⟩)
theorem jko (a0:TE)(c0_0:TE)(o0_0:Bool)(s0:Int)(r)(h:qia a0 c0_0 o0_0 s0=some r):yt pr qo3 (qgk a0 c0_0 o0_0) (qim a0 c0_0 o0_0) s0 r:=by
 unfold qia at h
 rcases j4 h with⟨h13,h⟩|⟨h13,h⟩
 ·obtain⟨v14,h15,h⟩:=j0 h
  obtain⟨v16,h17,h⟩:=j0 h
  have wh17:ye pr (X pr) 178 [.agg [.str v14.kind,Iv v14.a,Iv v14.b],.ptr 0 0] [.cells [(sl 3 vel c0_0,o0_0)]]=some (.bool v16,false,[.cells [(sl 3 vel c0_0,o0_0)]]):=j3q h17
  rcases j4 h with⟨h18,h⟩|⟨h18,h⟩
  ·cases h
   exact zc (by simp only[go_sem,seval,qo3,qgk,h13,zm h15,wh17,h18,qim]<;>rfl)
  cases h
  exact zq (by simp only[go_sem,seval,qo3,qgk,h13,zm h15,wh17,h18]<;>rfl)
 cases h
 exact zc (by simp only[go_sem,seval,qo3,qgk,h13,qim]<;>rfl)
theorem q7a (a0:TE)(c0_0:TE)(o0_0:Bool){s0:Int}{d}(h:itO (qia a0 c0_0 o0_0) s0=some d):X pr (.loop qo3) (qgk a0 c0_0 o0_0 s0)=some (qim a0 c0_0 o0_0 d):=kg (jko a0 c0_0 o0_0) (fun d=>by rcases d with d|d<;>(intro hh;cases hh)) h
def q18 (a0:TE)(c0_0:TE)(o0_0:Bool):Option Int:=
 j5 (itO (qia a0 c0_0 o0_0) 0) fun d19=>match d19 with
  | .inl d21=>
   some d21
  | .inr d22=>
   some (-1)
theorem juz {a0:TE}{c0_0:TE}{o0_0:Bool}{r}(h:q18 a0 c0_0 o0_0=some r):ye pr (X pr) 210 [sl 3 vel a0,.fn (.func 178) [] [.ptr 0 0]] [.cells [(sl 3 vel c0_0,o0_0)]]=some (Iv r,false,[.cells [(sl 3 vel c0_0,o0_0)]]):=by
 unfold q18 at h
 obtain⟨d19,h20,h⟩:=j0 h
 rcases d19 with d21|d22
 ·have wh20:=q7a a0 c0_0 o0_0 h20
  dsimp only[qgk,qim]at wh20
  have hr:d21=r:=Option.some.inj h
  subst hr
  rw[kr (show pr.fns 210=some c210 from rfl) (by simp)]
  simp only[go_sem,seval,c210,wh20]<;>rfl
 have wh20:=q7a a0 c0_0 o0_0 h20
 dsimp only[qgk,qim]at wh20
 have hr:(-1)=r:=Option.some.inj h
 subst hr
 rw[kr (show pr.fns 210=some c210 from rfl) (by simp)]
 simp only[go_sem,seval,c210,wh20]<;>rfl
def qt8 (a0:TE)(c0_0:TE)(o0_0:Bool):Option Bool:=
 j5 (q18 a0 c0_0 o0_0) fun v1=>
 some (decide (0≤v1))
theorem jhf {a0:TE}{c0_0:TE}{o0_0:Bool}{r}(h:qt8 a0 c0_0 o0_0=some r):ye pr (X pr) 180 [sl 3 vel a0,.fn (.func 178) [] [.ptr 0 0]] [.cells [(sl 3 vel c0_0,o0_0)]]=some (.bool r,false,[.cells [(sl 3 vel c0_0,o0_0)]]):=by
 unfold qt8 at h
 obtain⟨v1,h2,h⟩:=j0 h
 have wh2:ye pr (X pr) 210 [sl 3 vel a0,.fn (.func 178) [] [.ptr 0 0]] [.cells [(sl 3 vel c0_0,o0_0)]]=some (Iv v1,false,[.cells [(sl 3 vel c0_0,o0_0)]]):=juz h2
 have hr:decide (0≤v1)=r:=Option.some.inj h
 subst hr
 rw[kr (show pr.fns 180=some c180 from rfl) (by simp)]
 simp only[go_sem,seval,c180,wh2]<;>rfl
def f139 (a0:qb)(a1:qb):Option Bool:=
 j5 (f99 a1 false) fun v1=>
 cond v1.2
  (j5 (f99 a0 false) fun v4=>
  j5 (qt8 v4.1 v1.1 true) fun v6=>
  cond v6
   (some false)
   (cond (decide (a0.cost≤a1.cost))
    (some (decide (a1.stock≤a0.stock)))
    (some false)))
  (j5 (f99 a0 false) fun v10=>
  j5 (qt8 v10.1 v1.1 false) fun v12=>
  cond v12
   (some false)
   (cond (decide (a0.cost≤a1.cost))
    (some (decide (a1.stock≤a0.stock)))
    (some false)))
theorem jol {a0:qb}{a1:qb}{r}(h:f139 a0 a1=some r):zb pr (X pr) 139 [.agg [.str a0.name,.str a0.kd,Iv a0.pa,Iv a0.pb,Iv a0.sa,Iv a0.sb,Iv a0.cost,Iv a0.stock],.agg [.str a1.name,.str a1.kd,Iv a1.pa,Iv a1.pb,Iv a1.sa,Iv a1.sb,Iv a1.cost,Iv a1.stock]]=some (.bool r,false):=by
 unfold f139 at h
 obtain⟨v1,h2,h⟩:=j0 h
 have wh2:=W99 h2
 rcases j4 h with⟨h3,h⟩|⟨h3,h⟩
 ·obtain⟨v4,h5,h⟩:=j0 h
  have wh5:=W99 h5
  obtain⟨v6,h7,h⟩:=j0 h
  have wh7:ye pr (X pr) 180 [sl 3 vel v4.1,.fn (.func 178) [] [.ptr 0 0]] [.cells [(sl 3 vel v1.1,true)]]=some (.bool v6,false,[.cells [(sl 3 vel v1.1,true)]]):=jhf h7
  rcases j4 h with⟨h8,h⟩|⟨h8,h⟩
  ·obtain rfl:=oi h
   refine zk c139 ?_
   simp only[go_sem,seval,c139,wh2,h3,wh5,wh7,h8]
   exact⟨_,rfl⟩
  rcases j4 h with⟨h9,h⟩|⟨h9,h⟩
  ·obtain rfl:=oi h
   refine zk c139 ?_
   simp only[go_sem,seval,c139,wh2,h3,wh5,wh7,h8,h9]
   exact⟨_,rfl⟩
  obtain rfl:=oi h
  refine zk c139 ?_
  simp only[go_sem,seval,c139,wh2,h3,wh5,wh7,h8,h9]
  exact⟨_,rfl⟩
 obtain⟨v10,h11,h⟩:=j0 h
 have wh11:=W99 h11
 obtain⟨v12,h13,h⟩:=j0 h
 have wh13:ye pr (X pr) 180 [sl 3 vel v10.1,.fn (.func 178) [] [.ptr 0 0]] [.cells [(sl 3 vel v1.1,false)]]=some (.bool v12,false,[.cells [(sl 3 vel v1.1,false)]]):=jhf h13
 rcases j4 h with⟨h14,h⟩|⟨h14,h⟩
 ·obtain rfl:=oi h
  refine zk c139 ?_
  simp only[go_sem,seval,c139,wh2,h3,wh11,wh13,h14]
  exact⟨_,rfl⟩
 rcases j4 h with⟨h15,h⟩|⟨h15,h⟩
 ·obtain rfl:=oi h
  refine zk c139 ?_
  simp only[go_sem,seval,c139,wh2,h3,wh11,wh13,h14,h15]
  exact⟨_,rfl⟩
 obtain rfl:=oi h
 refine zk c139 ?_
 simp only[go_sem,seval,c139,wh2,h3,wh11,wh13,h14,h15]
 exact⟨_,rfl⟩
def qp8 (a0:TP)(s0:TI×Int×Bool)(v101:qb)(s1:Bool×Int):Option ((Bool×Int)⊕((Bool×Int))):=
 cond (decide (s1.2<((a0.getD []).length:Int)))
  (j5 (yo (a0.getD []) s1.2) fun v125=>
  cond s1.1
   (some (.inl (true,j9 .i64 (s1.2+1))))
   (cond (decide (s1.2=s0.2.1))
    (some (.inl (false,j9 .i64 (s1.2+1))))
    (j5 (f139 v125 v101) fun v129=>
    cond v129
     (cond (decide (s1.2<s0.2.1))
      (some (.inl (true,j9 .i64 (s1.2+1))))
      (j5 (f139 v101 v125) fun v133=>
      some (.inl (!v133,j9 .i64 (s1.2+1)))))
     (some (.inl (false,j9 .i64 (s1.2+1)))))))
  (some (.inr (s1.1,s1.2)))
def qb7 (a0:TP)(s0:TI×Int×Bool)(v101:qb)(s1:Bool×Int):qd:=⟨[(0,sl 8 zd a0,false),(5,sl 1 zg s0.1,s0.2.2),(6,Iv s0.2.1,false),(7,.ptr 0 0,false),(8,.bool s1.1,false),(16,sl 8 zd a0,false),(17,Lv a0,false),(18,Iv s0.2.1,false),(23,sl 8 zd a0,false),(24,Lv a0,false),(25,Iv s1.2,false)],[.cells [(.str v101.name,false),(.str v101.kd,false),(Iv v101.pa,false),(Iv v101.pb,false),(Iv v101.sa,false),(Iv v101.sb,false),(Iv v101.cost,false),(Iv v101.stock,false)]]⟩
def qw9 (a0:TP)(s0:TI×Int×Bool)(v101:qb)(d:(Bool×Int)):qj×qd:=(.exit 2,⟨[(0,sl 8 zd a0,false),(5,sl 1 zg s0.1,s0.2.2),(6,Iv s0.2.1,false),(7,.ptr 0 0,false),(8,.bool d.1,false),(16,sl 8 zd a0,false),(17,Lv a0,false),(18,Iv s0.2.1,false),(23,sl 8 zd a0,false),(24,Lv a0,false),(25,Iv d.2,false),(26,.bool false,false)],[.cells [(.str v101.name,false),(.str v101.kd,false),(Iv v101.pa,false),(Iv v101.pb,false),(Iv v101.sa,false),(Iv v101.sb,false),(Iv v101.cost,false),(Iv v101.stock,false)]]⟩)
theorem jul (a0:TP)(s0:TI×Int×Bool)(v101:qb)(s1:Bool×Int)(r)(h:qp8 a0 s0 v101 s1=some r):yt pr qkk (qb7 a0 s0 v101) (qw9 a0 s0 v101) s1 r:=by
 unfold qp8 at h
 rcases j4 h with⟨h124,h⟩|⟨h124,h⟩
 ·obtain⟨v125,h126,h⟩:=j0 h
  rcases j4 h with⟨h127,h⟩|⟨h127,h⟩
  ·cases h
   exact qag (by simp only[go_sem,seval,qkk,qb7,h124,zm h126,h127];exact⟨_,rfl⟩) rfl (by first|simp only[go_sem,seval,qb7]|rfl) (by first|simp only[go_sem,seval,qb7]|rfl)
  rcases j4 h with⟨h128,h⟩|⟨h128,h⟩
  ·cases h
   exact qag (by simp only[go_sem,seval,qkk,qb7,h124,zm h126,h127,h128];exact⟨_,rfl⟩) rfl (by first|simp only[go_sem,seval,qb7]|rfl) (by first|simp only[go_sem,seval,qb7]|rfl)
  obtain⟨v129,h130,h⟩:=j0 h
  have wh130:=jol h130
  rcases j4 h with⟨h131,h⟩|⟨h131,h⟩
  ·rcases j4 h with⟨h132,h⟩|⟨h132,h⟩
   ·cases h
    exact qag (by simp only[go_sem,seval,qkk,qb7,h124,zm h126,h127,h128,wh130,h131,h132];exact⟨_,rfl⟩) rfl (by first|simp only[go_sem,seval,qb7]|rfl) (by first|simp only[go_sem,seval,qb7]|rfl)
   obtain⟨v133,h134,h⟩:=j0 h
   have wh134:=jol h134
   cases h
   exact qag (by simp only[go_sem,seval,qkk,qb7,h124,zm h126,h127,h128,wh130,h131,h132,wh134];exact⟨_,rfl⟩) rfl (by first|simp only[go_sem,seval,qb7]|rfl) (by first|simp only[go_sem,seval,qb7]|rfl)
  cases h
  exact qag (by simp only[go_sem,seval,qkk,qb7,h124,zm h126,h127,h128,wh130,h131];exact⟨_,rfl⟩) rfl (by first|simp only[go_sem,seval,qb7]|rfl) (by first|simp only[go_sem,seval,qb7]|rfl)
 cases h
 exact zc (by simp only[go_sem,seval,qkk,qb7,h124,qw9]<;>rfl)
theorem jrr (a0:TP)(s0:TI×Int×Bool)(v101:qb){s1:Bool×Int}{d}(h:itO (qp8 a0 s0 v101) s1=some d):X pr (.loop qkk) (qb7 a0 s0 v101 s1)=some (qw9 a0 s0 v101 d):=kg (jul a0 s0 v101) (fun d hh=>by cases hh) h
def qqs (a0:TP)(s0:TI×Int×Bool):Option ((TI×Int×Bool)⊕((TI×Bool×Int))):=
 cond (decide (s0.2.1<((a0.getD []).length:Int)))
  (j5 (yo (a0.getD []) s0.2.1) fun v101=>
  j5 (itO (qp8 a0 s0 v101) (false,0)) fun d135=>
  cond d135.1
   (cond s0.2.2
    (j5 (apO s0.1 [s0.2.1]) fun v139=>
    some (.inl (v139,j9 .i64 (s0.2.1+1),true)))
    (cond s0.1.isNone
     (j5 (apO s0.1 [s0.2.1]) fun v142=>
     some (.inl (v142,j9 .i64 (s0.2.1+1),true)))
     (none)))
   (some (.inl (s0.1,j9 .i64 (s0.2.1+1),s0.2.2))))
  (some (.inr (s0.1,s0.2.2,s0.2.1)))
def qd6 (a0:TP)(s0:TI×Int×Bool):qd:=⟨[(0,sl 8 zd a0,false),(5,sl 1 zg s0.1,s0.2.2),(16,sl 8 zd a0,false),(17,Lv a0,false),(18,Iv s0.2.1,false)],[]⟩
def qx4 (a0:TP)(d:(TI×Bool×Int)):qj×qd:=(.exit 0,⟨[(0,sl 8 zd a0,false),(5,sl 1 zg d.1,d.2.1),(16,sl 8 zd a0,false),(17,Lv a0,false),(18,Iv d.2.2,false),(19,.bool false,false)],[]⟩)
theorem jst (a0:TP)(s0:TI×Int×Bool)(r)(h:qqs a0 s0=some r):yt pr qp5 (qd6 a0) (qx4 a0) s0 r:=by
 unfold qqs at h
 rcases j4 h with⟨h100,h⟩|⟨h100,h⟩
 ·obtain⟨v101,h102,h⟩:=j0 h
  obtain⟨d135,h136,h⟩:=j0 h
  have wh136:=jrr a0 s0 v101 h136
  dsimp only[qb7,qw9]at wh136
  rcases j4 h with⟨h137,h⟩|⟨h137,h⟩
  ·try simp only[h137]at wh136
   rcases j4 h with⟨h138,h⟩|⟨h138,h⟩
   ·try simp only[h138]at wh136
    obtain⟨v139,h140,h⟩:=j0 h
    cases h
    exact qag (by simp only[go_sem,seval,qp5,qd6,h100,zm h102,wh136,h137,h138,qfz h140];exact⟨_,rfl⟩) rfl (by first|simp only[go_sem,seval,qd6]|rfl) (by first|simp only[go_sem,seval,qd6]|rfl)
   try simp only[h138]at wh136
   rcases j4 h with⟨h141,h⟩|⟨h141,h⟩
   ·try simp only[h141]at wh136
    obtain⟨v142,h143,h⟩:=j0 h
    cases h
    exact qag (by simp only[go_sem,seval,qp5,qd6,h100,zm h102,wh136,h137,h138,h141,qfy h143 h141];exact⟨_,rfl⟩) rfl (by first|simp only[go_sem,seval,qd6]|rfl) (by first|simp only[go_sem,seval,qd6]|rfl)
   try simp only[h141]at wh136
   cases h
  try simp only[h137]at wh136
  cases h
  exact qag (by simp only[go_sem,seval,qp5,qd6,h100,zm h102,wh136,h137];exact⟨_,rfl⟩) rfl (by first|simp only[go_sem,seval,qd6]|rfl) (by first|simp only[go_sem,seval,qd6]|rfl)
 cases h
 exact zc (by simp only[go_sem,seval,qp5,qd6,h100,qx4]<;>rfl)
theorem jse (a0:TP){s0:TI×Int×Bool}{d}(h:itO (qqs a0) s0=some d):X pr (.loop qp5) (qd6 a0 s0)=some (qx4 a0 d):=kg (jst a0) (fun d hh=>by cases hh) h
def f70 (a0:TP):Option (TI×Int):=
 j5 (f23 a0) fun v1=>
 cond (decide (v1=0))
  (j5 (itO (qqs a0) (none,0,false)) fun d144=>
  some (d144.1,0))
  (some (none,v1))
theorem W70 {a0:TP}{r}(h:f70 a0=some r):zb pr (X pr) 70 [sl 8 zd a0]=some (.tup [sl 1 zg r.1,Iv r.2],false):=by
 unfold f70 at h
 obtain⟨v1,h2,h⟩:=j0 h
 rcases j4 h with⟨h3,h⟩|⟨h3,h⟩
 ·obtain⟨d144,h145,h⟩:=j0 h
  have wh145:=jse a0 h145
  dsimp only[qd6,qx4,ql7]at wh145
  obtain rfl:=oi h
  refine zk c70 ?_
  simp only[go_sem,seval,c70,W23 h2,h3,wh145]
  exact⟨_,rfl⟩
 obtain rfl:=oi h
 refine zk c70 ?_
 simp only[go_sem,seval,c70,W23 h2,h3]
 exact⟨_,rfl⟩
def f232 (a0:Int):Option Bool:=
 some false
theorem qj3 {a0:Int}{r}(h:f232 a0=some r):zb pr (X pr) 232 [Iv a0]=some (.bool r,false):=by
 unfold f232 at h
 obtain rfl:=oi h
 refine zk c232 ?_
 simp only[go_sem,seval,c232]
 exact⟨_,rfl⟩
def f203 (a0:Int)(a1:Int):Option Int:=
 j5 (f232 a0) fun v1=>
 j5 (f232 a1) fun v3=>
 cond v1
  (cond v3
   (some 0)
   (some (-1)))
  (cond v3
   (some 1)
   (cond (decide (a0<a1))
    (some (-1))
    (cond (decide (a1<a0))
     (some 1)
     (some 0))))
theorem jgb {a0:Int}{a1:Int}{r}(h:f203 a0 a1=some r):zb pr (X pr) 203 [Iv a0,Iv a1]=some (Iv r,false):=by
 unfold f203 at h
 obtain⟨v1,h2,h⟩:=j0 h
 obtain⟨v3,h4,h⟩:=j0 h
 rcases j4 h with⟨h5,h⟩|⟨h5,h⟩
 ·rcases j4 h with⟨h6,h⟩|⟨h6,h⟩
  ·obtain rfl:=oi h
   refine zk c203 ?_
   simp only[go_sem,seval,c203,qj3 h2,qj3 h4,h5,h6]
   exact⟨_,rfl⟩
  obtain rfl:=oi h
  refine zk c203 ?_
  simp only[go_sem,seval,c203,qj3 h2,qj3 h4,h5,h6]
  exact⟨_,rfl⟩
 rcases j4 h with⟨h7,h⟩|⟨h7,h⟩
 ·obtain rfl:=oi h
  refine zk c203 ?_
  simp only[go_sem,seval,c203,qj3 h2,qj3 h4,h5,h7]
  exact⟨_,rfl⟩
 rcases j4 h with⟨h8,h⟩|⟨h8,h⟩
 ·obtain rfl:=oi h
  refine zk c203 ?_
  simp only[go_sem,seval,c203,qj3 h2,qj3 h4,h5,h7,h8]
  exact⟨_,rfl⟩
 rcases j4 h with⟨h9,h⟩|⟨h9,h⟩
 ·obtain rfl:=oi h
  refine zk c203 ?_
  simp only[go_sem,seval,c203,qj3 h2,qj3 h4,h5,h7,h8,h9]
  exact⟨_,rfl⟩
 obtain rfl:=oi h
 refine zk c203 ?_
 simp only[go_sem,seval,c203,qj3 h2,qj3 h4,h5,h7,h8,h9]
 exact⟨_,rfl⟩
def qjr (a0:TI)(a1:TI)(s0:Int):Option (Int⊕(Int⊕Int)):=
 cond (decide (s0<((a0.getD []).length:Int)))
  (j5 (yo (a0.getD []) s0) fun v20=>
  cond (decide (((a1.getD []).length:Int)≤s0))
   (some (.inr (.inl 1)))
   (j5 (yo (a1.getD []) s0) fun v23=>
   j5 (f203 v20 v23) fun v25=>
   cond (decide (v25=0))
    (some (.inl (j9 .i64 (s0+1))))
    (some (.inr (.inl v25)))))
  (some (.inr (.inr s0)))
def qgv (a0:TI)(a1:TI)(s0:Int):qd:=⟨[(0,sl 1 zg a0,false),(1,sl 1 zg a1,false),(9,sl 1 zg a0,false),(10,Lv a0,false),(11,Iv s0,false)],[]⟩
def qio (a0:TI)(a1:TI):Int⊕Int→qj×qd
 | .inl d=>(.ret,⟨[(4,Iv d,false)],[]⟩)
 | .inr d=>(.exit 0,⟨[(0,sl 1 zg a0,false),(1,sl 1 zg a1,false),(9,sl 1 zg a0,false),(10,Lv a0,false),(11,Iv d,false),(12,.bool false,false)],[]⟩)
theorem jpi (a0:TI)(a1:TI)(s0:Int)(r)(h:qjr a0 a1 s0=some r):yt pr qme (qgv a0 a1) (qio a0 a1) s0 r:=by
 unfold qjr at h
 rcases j4 h with⟨h19,h⟩|⟨h19,h⟩
 ·obtain⟨v20,h21,h⟩:=j0 h
  rcases j4 h with⟨h22,h⟩|⟨h22,h⟩
  ·cases h
   exact zc (by simp only[go_sem,seval,qme,qgv,h19,zm h21,h22,qio]<;>rfl)
  obtain⟨v23,h24,h⟩:=j0 h
  obtain⟨v25,h26,h⟩:=j0 h
  rcases j4 h with⟨h27,h⟩|⟨h27,h⟩
  ·cases h
   exact zq (by simp only[go_sem,seval,qme,qgv,h19,zm h21,h22,zm h24,jgb h26,h27]<;>rfl)
  cases h
  exact zc (by simp only[go_sem,seval,qme,qgv,h19,zm h21,h22,zm h24,jgb h26,h27,qio]<;>rfl)
 cases h
 exact zc (by simp only[go_sem,seval,qme,qgv,h19,qio]<;>rfl)
theorem jbs (a0:TI)(a1:TI){s0:Int}{d}(h:itO (qjr a0 a1) s0=some d):X pr (.loop qme) (qgv a0 a1 s0)=some (qio a0 a1 d):=kg (jpi a0 a1) (fun d=>by rcases d with d|d<;>(intro hh;cases hh)) h
def f204 (a0:TI)(a1:TI):Option Int:=
 j5 (itO (qjr a0 a1) 0) fun d28=>match d28 with
  | .inl d30=>
   some d30
  | .inr d31=>
   cond (decide (((a0.getD []).length:Int)<((a1.getD []).length:Int)))
    (some (-1))
    (some 0)
theorem j32 {a0:TI}{a1:TI}{r}(h:f204 a0 a1=some r):zb pr (X pr) 204 [sl 1 zg a0,sl 1 zg a1]=some (Iv r,false):=by
 unfold f204 at h
 obtain⟨d28,h29,h⟩:=j0 h
 rcases d28 with d30|d31
 ·have wh29:=jbs a0 a1 h29
  dsimp only[qgv,qio]at wh29
  obtain rfl:=oi h
  refine zk c204 ?_
  simp only[go_sem,seval,c204,wh29]
  exact⟨_,rfl⟩
 have wh29:=jbs a0 a1 h29
 dsimp only[qgv,qio]at wh29
 rcases j4 h with⟨h32,h⟩|⟨h32,h⟩
 ·obtain rfl:=oi h
  refine zk c204 ?_
  simp only[go_sem,seval,c204,wh29,h32]
  exact⟨_,rfl⟩
 obtain rfl:=oi h
 refine zk c204 ?_
 simp only[go_sem,seval,c204,wh29,h32]
 exact⟨_,rfl⟩
def qhk (a0:TI)(s0:Int):Option (Int⊕(Int⊕Int)):=
 cond (decide (s0<((a0.getD []).length:Int)))
  (j5 (yo (a0.getD []) s0) fun v10=>
  cond (decide (v10=0))
   (some (.inl (j9 .i64 (s0+1))))
   (some (.inr (.inl v10))))
  (some (.inr (.inr s0)))
def qh7 (a0:TI)(s0:Int):qd:=⟨[(3,Iv 0,false),(6,sl 1 zg a0,false),(7,Lv a0,false),(8,Iv s0,false)],[]⟩
def qk5 (a0:TI):Int⊕Int→qj×qd
 | .inl d=>(.ret,⟨[(2,Iv d,false)],[]⟩)
 | .inr d=>(.exit 0,⟨[(3,Iv 0,false),(6,sl 1 zg a0,false),(7,Lv a0,false),(8,Iv d,false),(9,.bool false,false)],[]⟩)
theorem jn8 (a0:TI)(s0:Int)(r)(h:qhk a0 s0=some r):yt pr qpn (qh7 a0) (qk5 a0) s0 r:=by
 unfold qhk at h
 rcases j4 h with⟨h9,h⟩|⟨h9,h⟩
 ·obtain⟨v10,h11,h⟩:=j0 h
  rcases j4 h with⟨h12,h⟩|⟨h12,h⟩
  ·cases h
   exact zq (by simp only[go_sem,seval,qpn,qh7,h9,zm h11,h12]<;>rfl)
  cases h
  exact zc (by simp only[go_sem,seval,qpn,qh7,h9,zm h11,h12,qk5]<;>rfl)
 cases h
 exact zc (by simp only[go_sem,seval,qpn,qh7,h9,qk5]<;>rfl)
theorem jdh (a0:TI){s0:Int}{d}(h:itO (qhk a0) s0=some d):X pr (.loop qpn) (qh7 a0 s0)=some (qk5 a0 d):=kg (jn8 a0) (fun d=>by rcases d with d|d<;>(intro hh;cases hh)) h
def f202 (a0:TI):Option Int:=
 j5 (itO (qhk a0) 0) fun d13=>match d13 with
  | .inl d15=>
   some d15
  | .inr d16=>
   some 0
theorem j1j {a0:TI}{r}(h:f202 a0=some r):zb pr (X pr) 202 [sl 1 zg a0]=some (Iv r,false):=by
 unfold f202 at h
 obtain⟨d13,h14,h⟩:=j0 h
 rcases d13 with d15|d16
 ·have wh14:=jdh a0 h14
  dsimp only[qh7,qk5]at wh14
  obtain rfl:=oi h
  refine zk c202 ?_
  simp only[go_sem,seval,c202,wh14]
  exact⟨_,rfl⟩
 have wh14:=jdh a0 h14
 dsimp only[qh7,qk5]at wh14
 obtain rfl:=oi h
 refine zk c202 ?_
 simp only[go_sem,seval,c202,wh14]
 exact⟨_,rfl⟩
def qg6 (a0:TI)(a1:TI):Option Int:=
 j5 (f203 ((a0.getD []).length:Int) ((a1.getD []).length:Int)) fun v1=>
 j5 (f204 a0 a1) fun v3=>
 j5 (f202 (some [v1,v3])) fun v5=>
 some v5
theorem qt6 (hp:ze){a0:TI}{a1:TI}{r}(h:qg6 a0 a1=some r):ye pr (X pr) 163 [sl 1 zg a0,sl 1 zg a1] hp=some (Iv r,false,hp):=by
 unfold qg6 at h
 obtain⟨v1,h2,h⟩:=j0 h
 have wh2:=jgb h2
 obtain⟨v3,h4,h⟩:=j0 h
 obtain⟨v5,h6,h⟩:=j0 h
 have wh6:zb pr (X pr) 202 [.list false 1 [Iv v1,Iv v3]]=some (Iv v5,false):=j1j h6
 have hr:v5=r:=Option.some.inj h
 subst hr
 rw[kr (show pr.fns 163=some c163 from rfl) (by simp)]
 simp only[go_sem,seval,c163,wh2,j32 h4,wh6]<;>rfl
def qn6 (a0:TTI)(a1:Int)(a2:Int)(s0:Int)(s1:Unit):Option (Unit⊕(Unit)):=
 cond (decide (a1<s0))
  (j5 (yo (a0.getD []) s0) fun v49=>
  j5 (yo (a0.getD []) (j9 .i64 (s0-1))) fun v51=>
  j5 (qg6 v49 v51) fun v53=>
  cond (decide (v53<0))
   (none)
   (some (.inr ())))
  (some (.inr ()))
def qop (a0:TTI)(a1:Int)(a2:Int)(s0:Int)(s1:Unit):qd:=⟨[(0,sl 1 (sl 1 zg) a0,false),(1,Iv a1,false),(2,Iv a2,false),(3,.fn (.func 163) [] [],false),(8,Iv s0,false),(9,Iv s0,false)],[]⟩
def qoy (a0:TTI)(a1:Int)(a2:Int)(s0:Int)(d:Unit):qj×qd:=(.exit 2,⟨[(0,sl 1 (sl 1 zg) a0,false),(1,Iv a1,false),(2,Iv a2,false),(3,.fn (.func 163) [] [],false),(8,Iv s0,false),(9,Iv s0,false),(34,.bool false,false)],[]⟩)
theorem jn1 (a0:TTI)(a1:Int)(a2:Int)(s0:Int)(s1:Unit)(r)(h:qn6 a0 a1 a2 s0 s1=some r):yt pr qs5 (qop a0 a1 a2 s0) (qoy a0 a1 a2 s0) s1 r:=by
 unfold qn6 at h
 rcases j4 h with⟨h48,h⟩|⟨h48,h⟩
 ·obtain⟨v49,h50,h⟩:=j0 h
  obtain⟨v51,h52,h⟩:=j0 h
  obtain⟨v53,h54,h⟩:=j0 h
  have wh54:ye pr (X pr) 163 [sl 1 zg v49,sl 1 zg v51] []=some (Iv v53,false,[]):=qt6 [] h54
  rcases j4 h with⟨h55,h⟩|⟨h55,h⟩
  ·cases h
  cases h
  exact zc (by simp only[go_sem,seval,qs5,qop,h48,zm h50,zm h52,wh54,h55,qoy]<;>rfl)
 cases h
 exact zc (by simp only[go_sem,seval,qs5,qop,h48,qoy]<;>rfl)
theorem jml (a0:TTI)(a1:Int)(a2:Int)(s0:Int){s1:Unit}{d}(h:itO (qn6 a0 a1 a2 s0) s1=some d):X pr (.loop qs5) (qop a0 a1 a2 s0 s1)=some (qoy a0 a1 a2 s0 d):=kg (jn1 a0 a1 a2 s0) (fun d hh=>by cases hh) h
def qhl (a0:TTI)(a1:Int)(a2:Int)(s0:Int):Option (Int⊕(Int)):=
 cond (decide (s0<a2))
  (j5 (itO (qn6 a0 a1 a2 s0) ()) fun d56=>
  some (.inl (j9 .i64 (s0+1))))
  (some (.inr s0))
def qo6 (a0:TTI)(a1:Int)(a2:Int)(s0:Int):qd:=⟨[(0,sl 1 (sl 1 zg) a0,false),(1,Iv a1,false),(2,Iv a2,false),(3,.fn (.func 163) [] [],false),(8,Iv s0,false)],[]⟩
def qt9 (a0:TTI)(a1:Int)(a2:Int)(d:Int):qj×qd:=(.exit 0,⟨[(0,sl 1 (sl 1 zg) a0,false),(1,Iv a1,false),(2,Iv a2,false),(3,.fn (.func 163) [] [],false),(8,Iv d,false),(14,.bool false,false)],[]⟩)
theorem jo5 (a0:TTI)(a1:Int)(a2:Int)(s0:Int)(r)(h:qhl a0 a1 a2 s0=some r):yt pr qr4 (qo6 a0 a1 a2) (qt9 a0 a1 a2) s0 r:=by
 unfold qhl at h
 rcases j4 h with⟨h39,h⟩|⟨h39,h⟩
 ·obtain⟨d56,h57,h⟩:=j0 h
  have wh57:=jml a0 a1 a2 s0 h57
  dsimp only[qop,qoy]at wh57
  cases h
  exact zq (by simp only[go_sem,seval,qr4,qo6,h39,wh57]<;>rfl)
 cases h
 exact zc (by simp only[go_sem,seval,qr4,qo6,h39,qt9]<;>rfl)
theorem jm1 (a0:TTI)(a1:Int)(a2:Int){s0:Int}{d}(h:itO (qhl a0 a1 a2) s0=some d):X pr (.loop qr4) (qo6 a0 a1 a2 s0)=some (qt9 a0 a1 a2 d):=kg (jo5 a0 a1 a2) (fun d hh=>by cases hh) h
def f222 (a0:TTI)(a1:Int)(a2:Int):Option Unit:=
 j5 (itO (qhl a0 a1 a2) (j9 .i64 (a1+1))) fun d58=>
 some ()
theorem j3l {a0:TTI}{a1:Int}{a2:Int}{r}(h:f222 a0 a1 a2=some r):zb pr (X pr) 222 [sl 1 (sl 1 zg) a0,Iv a1,Iv a2,.fn (.func 163) [] []]=some (.tup [],false):=by
 unfold f222 at h
 obtain⟨d58,h59,h⟩:=j0 h
 have wh59:=jm1 a0 a1 a2 h59
 dsimp only[qo6,qt9]at wh59
 obtain rfl:=oi h
 refine zk c222 ?_
 simp only[go_sem,seval,c222,wh59]
 exact⟨_,rfl⟩
def f257 (a0:TTI)(a1:Int)(a2:Int)(c0_0:Int):Option ((Int×Int)×Int):=
 j5 (yo (a0.getD []) a2) fun v1=>
 j5 (yo (a0.getD []) a1) fun v3=>
 j5 (qg6 v1 v3) fun v5=>
 cond (decide (v5<0))
  (some ((a2,a1),j9 .i64 (c0_0+1)))
  (some ((a1,a2),c0_0))
theorem jf1 {a0:TTI}{a1:Int}{a2:Int}{c0_0:Int}{r}(h:f257 a0 a1 a2 c0_0=some r):ye pr (X pr) 257 [sl 1 (sl 1 zg) a0,Iv a1,Iv a2,.ptr 0 0,.fn (.func 163) [] []] [.cells [(Iv c0_0,false)]]=some (.tup [Iv r.1.1,Iv r.1.2],false,[.cells [(Iv r.2,false)]]):=by
 unfold f257 at h
 obtain⟨v1,h2,h⟩:=j0 h
 obtain⟨v3,h4,h⟩:=j0 h
 obtain⟨v5,h6,h⟩:=j0 h
 have wh6:ye pr (X pr) 163 [sl 1 zg v1,sl 1 zg v3] [.cells [(Iv c0_0,false)]]=some (Iv v5,false,[.cells [(Iv c0_0,false)]]):=qt6 [.cells [(Iv c0_0,false)]] h6
 rcases j4 h with⟨h7,h⟩|⟨h7,h⟩
 ·have hr:((a2,a1),j9 .i64 (c0_0+1))=r:=Option.some.inj h
  subst hr
  rw[kr (show pr.fns 257=some c257 from rfl) (by simp)]
  simp only[go_sem,seval,c257,zm h2,zm h4,wh6,h7]<;>rfl
 have hr:((a1,a2),c0_0)=r:=Option.some.inj h
 subst hr
 rw[kr (show pr.fns 257=some c257 from rfl) (by simp)]
 simp only[go_sem,seval,c257,zm h2,zm h4,wh6,h7]<;>rfl
def f248 (a0:TTI)(a1:Int)(a2:Int)(a3:Int)(c0_0:Int):Option (Int×Int):=
 j5 (f257 a0 a1 a2 c0_0) fun v1=>
 j5 (f257 a0 v1.1.2 a3 v1.2) fun v3=>
 j5 (f257 a0 v1.1.1 v3.1.1 v3.2) fun v5=>
 some (v5.1.2,v5.2)
theorem jfc {a0:TTI}{a1:Int}{a2:Int}{a3:Int}{c0_0:Int}{r}(h:f248 a0 a1 a2 a3 c0_0=some r):ye pr (X pr) 248 [sl 1 (sl 1 zg) a0,Iv a1,Iv a2,Iv a3,.ptr 0 0,.fn (.func 163) [] []] [.cells [(Iv c0_0,false)]]=some (Iv r.1,false,[.cells [(Iv r.2,false)]]):=by
 unfold f248 at h
 obtain⟨v1,h2,h⟩:=j0 h
 have wh2:ye pr (X pr) 257 [sl 1 (sl 1 zg) a0,Iv a1,Iv a2,.ptr 0 0,.fn (.func 163) [] []] [.cells [(Iv c0_0,false)]]=some (.tup [Iv v1.1.1,Iv v1.1.2],false,[.cells [(Iv v1.2,false)]]):=jf1 h2
 obtain⟨v3,h4,h⟩:=j0 h
 have wh4:ye pr (X pr) 257 [sl 1 (sl 1 zg) a0,Iv v1.1.2,Iv a3,.ptr 0 0,.fn (.func 163) [] []] [.cells [(Iv v1.2,false)]]=some (.tup [Iv v3.1.1,Iv v3.1.2],false,[.cells [(Iv v3.2,false)]]):=jf1 h4
 obtain⟨v5,h6,h⟩:=j0 h
 have wh6:ye pr (X pr) 257 [sl 1 (sl 1 zg) a0,Iv v1.1.1,Iv v3.1.1,.ptr 0 0,.fn (.func 163) [] []] [.cells [(Iv v3.2,false)]]=some (.tup [Iv v5.1.1,Iv v5.1.2],false,[.cells [(Iv v5.2,false)]]):=jf1 h6
 have hr:(v5.1.2,v5.2)=r:=Option.some.inj h
 subst hr
 rw[kr (show pr.fns 248=some c248 from rfl) (by simp)]
 simp only[go_sem,seval,c248,wh2,wh4,wh6]<;>rfl
def f247 (a0:TTI)(a1:Int)(c0_0:Int):Option (Int×Int):=
 j5 (f248 a0 (j9 .i64 (a1-1)) a1 (j9 .i64 (a1+1)) c0_0) fun v1=>
 some (v1.1,v1.2)
theorem jeo {a0:TTI}{a1:Int}{c0_0:Int}{r}(h:f247 a0 a1 c0_0=some r):ye pr (X pr) 247 [sl 1 (sl 1 zg) a0,Iv a1,.ptr 0 0,.fn (.func 163) [] []] [.cells [(Iv c0_0,false)]]=some (Iv r.1,false,[.cells [(Iv r.2,false)]]):=by
 unfold f247 at h
 obtain⟨v1,h2,h⟩:=j0 h
 have wh2:ye pr (X pr) 248 [sl 1 (sl 1 zg) a0,Iv (j9 .i64 (a1-1)),Iv a1,Iv (j9 .i64 (a1+1)),.ptr 0 0,.fn (.func 163) [] []] [.cells [(Iv c0_0,false)]]=some (Iv v1.1,false,[.cells [(Iv v1.2,false)]]):=jfc h2
 have hr:(v1.1,v1.2)=r:=Option.some.inj h
 subst hr
 rw[kr (show pr.fns 247=some c247 from rfl) (by simp)]
 simp only[go_sem,seval,c247,wh2]<;>rfl
def f225 (a0:TTI)(a1:Int)(a2:Int):Option (Int×Int):=
 j5 (qfc .i64 (j9 .i64 (a2-a1)) 4) fun v1=>
 cond (decide (8≤(j9 .i64 (a2-a1))))
  (cond (decide (50≤(j9 .i64 (a2-a1))))
   (j5 (f247 a0 (j9 .i64 (a1+(j9 .i64 (v1*1)))) 0) fun v5=>
   j5 (f247 a0 (j9 .i64 (a1+(j9 .i64 (v1*2)))) v5.2) fun v7=>
   j5 (f247 a0 (j9 .i64 (a1+(j9 .i64 (v1*3)))) v7.2) fun v9=>
   j5 (f248 a0 v5.1 v7.1 v9.1 v9.2) fun v11=>
   cond (decide (v11.2=0))
    (some (v11.1,1))
    (cond (decide (v11.2=12))
     (some (v11.1,2))
     (some (v11.1,0))))
   (j5 (f248 a0 (j9 .i64 (a1+(j9 .i64 (v1*1)))) (j9 .i64 (a1+(j9 .i64 (v1*2)))) (j9 .i64 (a1+(j9 .i64 (v1*3)))) 0) fun v15=>
   cond (decide (v15.2=0))
    (some (v15.1,1))
    (cond (decide (v15.2=12))
     (some (v15.1,2))
     (some (v15.1,0)))))
  (some (j9 .i64 (a1+(j9 .i64 (v1*2))),1))
theorem j1f {a0:TTI}{a1:Int}{a2:Int}{r}(h:f225 a0 a1 a2=some r):zb pr (X pr) 225 [sl 1 (sl 1 zg) a0,Iv a1,Iv a2,.fn (.func 163) [] []]=some (.tup [Iv r.1,Iv r.2],false):=by
 unfold f225 at h
 obtain⟨v1,h2,h⟩:=j0 h
 rcases j4 h with⟨h3,h⟩|⟨h3,h⟩
 ·rcases j4 h with⟨h4,h⟩|⟨h4,h⟩
  ·obtain⟨v5,h6,h⟩:=j0 h
   have wh6:ye pr (X pr) 247 [sl 1 (sl 1 zg) a0,Iv (j9 .i64 (a1+(j9 .i64 (v1*1)))),.ptr 0 0,.fn (.func 163) [] []] [.cells [(Iv 0,false)]]=some (Iv v5.1,false,[.cells [(Iv v5.2,false)]]):=jeo h6
   obtain⟨v7,h8,h⟩:=j0 h
   have wh8:ye pr (X pr) 247 [sl 1 (sl 1 zg) a0,Iv (j9 .i64 (a1+(j9 .i64 (v1*2)))),.ptr 0 0,.fn (.func 163) [] []] [.cells [(Iv v5.2,false)]]=some (Iv v7.1,false,[.cells [(Iv v7.2,false)]]):=jeo h8
   obtain⟨v9,h10,h⟩:=j0 h
   have wh10:ye pr (X pr) 247 [sl 1 (sl 1 zg) a0,Iv (j9 .i64 (a1+(j9 .i64 (v1*3)))),.ptr 0 0,.fn (.func 163) [] []] [.cells [(Iv v7.2,false)]]=some (Iv v9.1,false,[.cells [(Iv v9.2,false)]]):=jeo h10
   obtain⟨v11,h12,h⟩:=j0 h
   have wh12:ye pr (X pr) 248 [sl 1 (sl 1 zg) a0,Iv v5.1,Iv v7.1,Iv v9.1,.ptr 0 0,.fn (.func 163) [] []] [.cells [(Iv v9.2,false)]]=some (Iv v11.1,false,[.cells [(Iv v11.2,false)]]):=jfc h12
   rcases j4 h with⟨h13,h⟩|⟨h13,h⟩
   ·obtain rfl:=oi h
    refine zk c225 ?_
    simp only[go_sem,seval,c225,qck h2,h3,h4,wh6,wh8,wh10,wh12,h13]
    exact⟨_,rfl⟩
   rcases j4 h with⟨h14,h⟩|⟨h14,h⟩
   ·obtain rfl:=oi h
    refine zk c225 ?_
    simp only[go_sem,seval,c225,qck h2,h3,h4,wh6,wh8,wh10,wh12,h13,h14]
    exact⟨_,rfl⟩
   obtain rfl:=oi h
   refine zk c225 ?_
   simp only[go_sem,seval,c225,qck h2,h3,h4,wh6,wh8,wh10,wh12,h13,h14]
   exact⟨_,rfl⟩
  obtain⟨v15,h16,h⟩:=j0 h
  have wh16:ye pr (X pr) 248 [sl 1 (sl 1 zg) a0,Iv (j9 .i64 (a1+(j9 .i64 (v1*1)))),Iv (j9 .i64 (a1+(j9 .i64 (v1*2)))),Iv (j9 .i64 (a1+(j9 .i64 (v1*3)))),.ptr 0 0,.fn (.func 163) [] []] [.cells [(Iv 0,false)]]=some (Iv v15.1,false,[.cells [(Iv v15.2,false)]]):=jfc h16
  rcases j4 h with⟨h17,h⟩|⟨h17,h⟩
  ·obtain rfl:=oi h
   refine zk c225 ?_
   simp only[go_sem,seval,c225,qck h2,h3,h4,wh16,h17]
   exact⟨_,rfl⟩
  rcases j4 h with⟨h18,h⟩|⟨h18,h⟩
  ·obtain rfl:=oi h
   refine zk c225 ?_
   simp only[go_sem,seval,c225,qck h2,h3,h4,wh16,h17,h18]
   exact⟨_,rfl⟩
  obtain rfl:=oi h
  refine zk c225 ?_
  simp only[go_sem,seval,c225,qck h2,h3,h4,wh16,h17,h18]
  exact⟨_,rfl⟩
 obtain rfl:=oi h
 refine zk c225 ?_
 simp only[go_sem,seval,c225,qck h2,h3]
 exact⟨_,rfl⟩
def qoo (a0:TTI)(a1:Int)(a2:Int):Option (Option (Int)⊕(Int)):=
 cond (decide ((j9 .i64 (a1+1))<a2))
  (j5 (yo (a0.getD []) (j9 .i64 (a1+1))) fun v114=>
  j5 (yo (a0.getD []) (j9 .i64 ((j9 .i64 (a1+1))-1))) fun v116=>
  j5 (qg6 v114 v116) fun v118=>
  cond (decide (v118<0))
   (some (.inr (j9 .i64 (a1+1))))
   (some (.inl (some (j9 .i64 ((j9 .i64 (a1+1))+1))))))
  (some (.inr (j9 .i64 (a1+1))))
def qhv (a0:TTI)(a1:Int)(a2:Int)(s1:Int):Option (Option (Int)⊕(Int)):=
 cond (decide (s1<a2))
  (j5 (yo (a0.getD []) s1) fun v106=>
  j5 (yo (a0.getD []) (j9 .i64 (s1-1))) fun v108=>
  j5 (qg6 v106 v108) fun v110=>
  cond (decide (v110<0))
   (some (.inr s1))
   (some (.inl (some (j9 .i64 (s1+1))))))
  (some (.inr s1))
def qmg (a0:TTI)(a1:Int)(a2:Int):Option (Int)→Option (Option (Int)⊕(Int))
 |none=>qoo a0 a1 a2
 |some x=>qhv a0 a1 a2 x
def qff (a0:TTI)(a1:Int)(a2:Int)(s1:Int):qd:=⟨[(0,sl 1 (sl 1 zg) a0,false),(1,Iv a1,false),(2,Iv a2,false),(3,.fn (.func 163) [] [],false),(9,Iv s1,false),(10,Iv 0,false)],[]⟩
def qd7 (a0:TTI)(a1:Int)(a2:Int):Option (Int)→qd
 |none=>⟨[(0,sl 1 (sl 1 zg) a0,false),(1,Iv a1,false),(2,Iv a2,false),(3,.fn (.func 163) [] [],false),(9,Iv (j9 .i64 (a1+1)),false),(10,Iv 0,false),(16,.bool true,false)],[]⟩
 |some x=>qff a0 a1 a2 x
def qf0 (a0:TTI)(a1:Int)(a2:Int)(d:Int):qj×qd:=(.exit 2,⟨[(0,sl 1 (sl 1 zg) a0,false),(1,Iv a1,false),(2,Iv a2,false),(3,.fn (.func 163) [] [],false),(9,Iv d,false),(10,Iv 0,false),(36,.bool false,false)],[]⟩)
theorem jju (a0:TTI)(a1:Int)(a2:Int)(r)(h:qoo a0 a1 a2=some r):yt pr qfg (qd7 a0 a1 a2) (qf0 a0 a1 a2) none r:=by
 unfold qoo at h
 rcases j4 h with⟨h113,h⟩|⟨h113,h⟩
 ·obtain⟨v114,h115,h⟩:=j0 h
  obtain⟨v116,h117,h⟩:=j0 h
  obtain⟨v118,h119,h⟩:=j0 h
  have wh119:ye pr (X pr) 163 [sl 1 zg v114,sl 1 zg v116] []=some (Iv v118,false,[]):=qt6 [] h119
  rcases j4 h with⟨h120,h⟩|⟨h120,h⟩
  ·cases h
   exact zc (by simp only[go_sem,seval,qfg,qd7,qff,h113,zm h115,zm h117,wh119,h120,qf0]<;>rfl)
  cases h
  exact zq (by simp only[go_sem,seval,qfg,qd7,qff,h113,zm h115,zm h117,wh119,h120]<;>rfl)
 cases h
 exact zc (by simp only[go_sem,seval,qfg,qd7,qff,h113,qf0]<;>rfl)
theorem ji3 (a0:TTI)(a1:Int)(a2:Int)(s1:Int)(r)(h:qhv a0 a1 a2 s1=some r):yt pr qfg (qd7 a0 a1 a2) (qf0 a0 a1 a2) (some s1) r:=by
 unfold qhv at h
 rcases j4 h with⟨h105,h⟩|⟨h105,h⟩
 ·obtain⟨v106,h107,h⟩:=j0 h
  obtain⟨v108,h109,h⟩:=j0 h
  obtain⟨v110,h111,h⟩:=j0 h
  have wh111:ye pr (X pr) 163 [sl 1 zg v106,sl 1 zg v108] []=some (Iv v110,false,[]):=qt6 [] h111
  rcases j4 h with⟨h112,h⟩|⟨h112,h⟩
  ·cases h
   exact zc (by simp only[go_sem,seval,qfg,qd7,qff,h105,zm h107,zm h109,wh111,h112,qf0]<;>rfl)
  cases h
  exact zq (by simp only[go_sem,seval,qfg,qd7,qff,h105,zm h107,zm h109,wh111,h112]<;>rfl)
 cases h
 exact zc (by simp only[go_sem,seval,qfg,qd7,qff,h105,qf0]<;>rfl)
theorem jpk (a0:TTI)(a1:Int)(a2:Int):∀(x:Option (Int)) (r) (h:qmg a0 a1 a2 x=some r),yt pr qfg (qd7 a0 a1 a2) (qf0 a0 a1 a2) x r
 |none,r,h=>jju a0 a1 a2 r h
 |some x,r,h=>ji3 a0 a1 a2 x r h
theorem joj (a0:TTI)(a1:Int)(a2:Int){s1:Option (Int)}{d}(h:itO (qmg a0 a1 a2) s1=some d):X pr (.loop qfg) (qd7 a0 a1 a2 s1)=some (qf0 a0 a1 a2 d):=kg (jpk a0 a1 a2) (fun d hh=>by cases hh) h
def qoc (a0:TTI)(a1:Int)(a2:Int)(s0:Unit):Option (Unit⊕(Bool)):=
 j5 (itO (qmg a0 a1 a2) none) fun d121=>
 cond (decide (d121=a2))
  (some (.inr true))
  (cond (decide ((j9 .i64 (a2-a1))<50))
   (some (.inr false))
   (j5 (yo (a0.getD []) (j9 .i64 (d121-1))) fun v125=>
   j5 (yo (a0.getD []) d121) fun v127=>
   none))
def qpl (a0:TTI)(a1:Int)(a2:Int)(s0:Unit):qd:=⟨[(0,sl 1 (sl 1 zg) a0,false),(1,Iv a1,false),(2,Iv a2,false),(3,.fn (.func 163) [] [],false),(9,Iv (j9 .i64 (a1+1)),false),(10,Iv 0,false)],[]⟩
def qpj (a0:TTI)(a1:Int)(a2:Int)(d:Bool):qj×qd:=(.ret,⟨[(8,.bool d,false)],[]⟩)
theorem jnc (a0:TTI)(a1:Int)(a2:Int)(s0:Unit)(r)(h:qoc a0 a1 a2 s0=some r):yt pr qrn (qpl a0 a1 a2) (qpj a0 a1 a2) s0 r:=by
 unfold qoc at h
 obtain⟨d121,h122,h⟩:=j0 h
 have wh122:=joj a0 a1 a2 h122
 dsimp only[qd7,qff,qf0]at wh122
 rcases j4 h with⟨h123,h⟩|⟨h123,h⟩
 ·cases h
  exact zc (by simp only[go_sem,seval,qrn,qpl,wh122,h123,qpj]<;>rfl)
 rcases j4 h with⟨h124,h⟩|⟨h124,h⟩
 ·cases h
  exact zc (by simp only[go_sem,seval,qrn,qpl,wh122,h123,h124,qpj]<;>rfl)
 obtain⟨v125,h126,h⟩:=j0 h
 obtain⟨v127,h128,h⟩:=j0 h
 cases h
theorem jn7 (a0:TTI)(a1:Int)(a2:Int){s0:Unit}{d}(h:itO (qoc a0 a1 a2) s0=some d):X pr (.loop qrn) (qpl a0 a1 a2 s0)=some (qpj a0 a1 a2 d):=kg (jnc a0 a1 a2) (fun d hh=>by cases hh) h
def f227 (a0:TTI)(a1:Int)(a2:Int):Option Bool:=
 j5 (itO (qoc a0 a1 a2) ()) fun d129=>
 some d129
theorem j1q {a0:TTI}{a1:Int}{a2:Int}{r}(h:f227 a0 a1 a2=some r):zb pr (X pr) 227 [sl 1 (sl 1 zg) a0,Iv a1,Iv a2,.fn (.func 163) [] []]=some (.bool r,false):=by
 unfold f227 at h
 obtain⟨d129,h130,h⟩:=j0 h
 have wh130:=jn7 a0 a1 a2 h130
 dsimp only[qpl,qpj]at wh130
 obtain rfl:=oi h
 refine zk c227 ?_
 simp only[go_sem,seval,c227,wh130]
 exact⟨_,rfl⟩
def f231 (a0:Int):Option Int:=
 cond (decide (4294967296≤a0))
  (none)
  (cond (decide (65536≤a0))
   (none)
   (cond (decide (256≤a0))
    (none)
    (j5 (yo ([0,1,2,2,3,3,3,3,4,4,4,4,4,4,4,4,5,5,5,5,5,5,5,5,5,5,5,5,5,5,5,5,6,6,6,6,6,6,6,6,6,6,6,6,6,6,6,6,6,6,6,6,6,6,6,6,6,6,6,6,6,6,6,6,7,7,7,7,7,7,7,7,7,7,7,7,7,7,7,7,7,7,7,7,7,7,7,7,7,7,7,7,7,7,7,7,7,7,7,7,7,7,7,7,7,7,7,7,7,7,7,7,7,7,7,7,7,7,7,7,7,7,7,7,7,7,7,7,8,8,8,8,8,8,8,8,8,8,8,8,8,8,8,8,8,8,8,8,8,8,8,8,8,8,8,8,8,8,8,8,8,8,8,8,8,8,8,8,8,8,8,8,8,8,8,8,8,8,8,8,8,8,8,8,8,8,8,8,8,8,8,8,8,8,8,8,8,8,8,8,8,8,8,8,8,8,8,8,8,8,8,8,8,8,8,8,8,8,8,8,8,8,8,8,8,8,8,8,8,8,8,8,8,8,8,8,8,8,8,8,8,8,8,8,8,8,8,8,8,8,8,8,8,8,8,8]:List UInt8) (j9 .u8 a0)) fun v4=>
    some (j9 .i64 (0+(j9 .i64 (v4.toNat:Int)))))))
theorem j0y {a0:Int}{r}(h:f231 a0=some r):zb pr (X pr) 231 [.int .u64 a0]=some (Iv r,false):=by
 unfold f231 at h
 rcases j4 h with⟨h1,h⟩|⟨h1,h⟩
 ·cases h
 rcases j4 h with⟨h2,h⟩|⟨h2,h⟩
 ·cases h
 rcases j4 h with⟨h3,h⟩|⟨h3,h⟩
 ·cases h
 obtain⟨v4,h5,h⟩:=j0 h
 obtain rfl:=oi h
 refine zk c231 ?_
 simp only[go_sem,seval,c231,h1,h2,h3,yv h5]
 exact⟨_,rfl⟩
def f201 (a0:Int):Option Int:=
 j5 (f231 a0) fun v1=>
 some v1
theorem j0b {a0:Int}{r}(h:f201 a0=some r):zb pr (X pr) 201 [.int .u64 a0]=some (Iv r,false):=by
 unfold f201 at h
 obtain⟨v1,h2,h⟩:=j0 h
 have wh2:=j0y h2
 obtain rfl:=oi h
 refine zk c201 ?_
 simp only[go_sem,seval,c201,wh2]
 exact⟨_,rfl⟩
def qjm (a0:TTI)(a1:Int)(a2:Int)(a3:Int)(s0:Unit):Option (Unit⊕(Unit⊕Int)):=
 cond (decide ((j9 .i64 (a2-a1))≤12))
  (j5 (f222 a0 a1 a2) fun v29=>
  some (.inr (.inl ())))
  (cond (decide (a3=0))
   (none)
   (j5 (f225 a0 a1 a2) fun v32=>
   cond (decide (v32.2=2))
    (none)
    (cond (decide (v32.2=1))
     (j5 (f227 a0 a1 a2) fun v36=>
     cond v36
      (some (.inr (.inr v32.1)))
      (cond (decide (0<a1))
       (j5 (yo (a0.getD []) (j9 .i64 (a1-1))) fun v40=>
       j5 (yo (a0.getD []) v32.1) fun v42=>
       j5 (qg6 v40 v42) fun v44=>
       cond (decide (v44<0))
        (none)
        (none))
       (none)))
     (cond (decide (0<a1))
      (j5 (yo (a0.getD []) (j9 .i64 (a1-1))) fun v48=>
      j5 (yo (a0.getD []) v32.1) fun v50=>
      j5 (qg6 v48 v50) fun v52=>
      cond (decide (v52<0))
       (none)
       (none))
      (none)))))
def qk1 (a0:TTI)(a1:Int)(a2:Int)(a3:Int)(s0:Unit):qd:=⟨[(0,sl 1 (sl 1 zg) a0,false),(1,Iv a1,false),(2,Iv a2,false),(3,Iv a3,false),(4,.fn (.func 163) [] [],false),(10,.bool true,false),(11,.bool true,false)],[]⟩
def qk7 (a0:TTI)(a1:Int)(a2:Int)(a3:Int):Unit⊕Int→qj×qd
 | .inl d=>(.ret,⟨[],[]⟩)
 | .inr d=>(.ret,⟨[(0,sl 1 (sl 1 zg) a0,false),(1,Iv a1,false),(2,Iv a2,false),(3,Iv a3,false),(4,.fn (.func 163) [] [],false),(10,.bool true,false),(11,.bool true,false),(12,Iv (j9 .i64 (a2-a1)),false),(13,Iv d,false),(80,.bool true,false)],[]⟩)
theorem jnu (a0:TTI)(a1:Int)(a2:Int)(a3:Int)(s0:Unit)(r)(h:qjm a0 a1 a2 a3 s0=some r):yt pr qr8 (qk1 a0 a1 a2 a3) (qk7 a0 a1 a2 a3) s0 r:=by
 unfold qjm at h
 rcases j4 h with⟨h28,h⟩|⟨h28,h⟩
 ·obtain⟨v29,h30,h⟩:=j0 h
  have wh30:zb pr (X pr) 222 [sl 1 (sl 1 zg) a0,Iv a1,Iv a2,.fn (.func 163) [] []]=some (.tup [],false):=j3l h30
  cases h
  exact zc (by simp only[go_sem,seval,qr8,qk1,h28,wh30,qk7]<;>rfl)
 rcases j4 h with⟨h31,h⟩|⟨h31,h⟩
 ·cases h
 obtain⟨v32,h33,h⟩:=j0 h
 have wh33:zb pr (X pr) 225 [sl 1 (sl 1 zg) a0,Iv a1,Iv a2,.fn (.func 163) [] []]=some (.tup [Iv v32.1,Iv v32.2],false):=j1f h33
 rcases j4 h with⟨h34,h⟩|⟨h34,h⟩
 ·cases h
 rcases j4 h with⟨h35,h⟩|⟨h35,h⟩
 ·obtain⟨v36,h37,h⟩:=j0 h
  have wh37:zb pr (X pr) 227 [sl 1 (sl 1 zg) a0,Iv a1,Iv a2,.fn (.func 163) [] []]=some (.bool v36,false):=j1q h37
  rcases j4 h with⟨h38,h⟩|⟨h38,h⟩
  ·cases h
   exact zc (by simp only[go_sem,seval,qr8,qk1,h28,h31,wh33,h34,h35,wh37,h38,qk7]<;>rfl)
  rcases j4 h with⟨h39,h⟩|⟨h39,h⟩
  ·obtain⟨v40,h41,h⟩:=j0 h
   obtain⟨v42,h43,h⟩:=j0 h
   obtain⟨v44,h45,h⟩:=j0 h
   have wh45:ye pr (X pr) 163 [sl 1 zg v40,sl 1 zg v42] []=some (Iv v44,false,[]):=qt6 [] h45
   rcases j4 h with⟨h46,h⟩|⟨h46,h⟩
   ·cases h
   cases h
  cases h
 rcases j4 h with⟨h47,h⟩|⟨h47,h⟩
 ·obtain⟨v48,h49,h⟩:=j0 h
  obtain⟨v50,h51,h⟩:=j0 h
  obtain⟨v52,h53,h⟩:=j0 h
  have wh53:ye pr (X pr) 163 [sl 1 zg v48,sl 1 zg v50] []=some (Iv v52,false,[]):=qt6 [] h53
  rcases j4 h with⟨h54,h⟩|⟨h54,h⟩
  ·cases h
  cases h
 cases h
theorem jbz (a0:TTI)(a1:Int)(a2:Int)(a3:Int){s0:Unit}{d}(h:itO (qjm a0 a1 a2 a3) s0=some d):X pr (.loop qr8) (qk1 a0 a1 a2 a3 s0)=some (qk7 a0 a1 a2 a3 d):=kg (jnu a0 a1 a2 a3) (fun d=>by rcases d with d|d<;>(intro hh;cases hh)) h
def f200 (a0:TTI)(a1:Int)(a2:Int)(a3:Int):Option Unit:=
 j5 (itO (qjm a0 a1 a2 a3) ()) fun d55=>match d55 with
  | .inl d57=>
   some ()
  | .inr d58=>
   some ()
theorem j26 {a0:TTI}{a1:Int}{a2:Int}{a3:Int}{r}(h:f200 a0 a1 a2 a3=some r):zb pr (X pr) 200 [sl 1 (sl 1 zg) a0,Iv a1,Iv a2,Iv a3,.fn (.func 163) [] []]=some (.tup [],false):=by
 unfold f200 at h
 obtain⟨d55,h56,h⟩:=j0 h
 rcases d55 with d57|d58
 ·have wh56:=jbz a0 a1 a2 a3 h56
  dsimp only[qk1,qk7]at wh56
  obtain rfl:=oi h
  refine zk c200 ?_
  simp only[go_sem,seval,c200,wh56]
  exact⟨_,rfl⟩
 have wh56:=jbz a0 a1 a2 a3 h56
 dsimp only[qk1,qk7]at wh56
 obtain rfl:=oi h
 refine zk c200 ?_
 simp only[go_sem,seval,c200,wh56]
 exact⟨_,rfl⟩
def f162 (a0:TTI):Option Unit:=
 j5 (f201 (j9 .u64 ((a0.getD []).length:Int))) fun v1=>
 j5 (f200 a0 0 ((a0.getD []).length:Int) v1) fun v3=>
 some ()
theorem j2m {a0:TTI}{r}(h:f162 a0=some r):zb pr (X pr) 162 [sl 1 (sl 1 zg) a0,.fn (.func 163) [] []]=some (.tup [],false):=by
 unfold f162 at h
 obtain⟨v1,h2,h⟩:=j0 h
 have wh2:=j0b h2
 obtain⟨v3,h4,h⟩:=j0 h
 have wh4:zb pr (X pr) 200 [sl 1 (sl 1 zg) a0,Iv 0,Lv a0,Iv v1,.fn (.func 163) [] []]=some (.tup [],false):=j26 h4
 obtain rfl:=oi h
 refine zk c162 ?_
 simp only[go_sem,seval,c162,wh2,wh4]
 exact⟨_,rfl⟩
def qnb (a0:TI)(a1:Int)(s0:Int):Option (Int⊕(Unit⊕Int)):=
 cond (decide (s0<((a0.getD []).length:Int)))
  (j5 (yo (a0.getD []) s0) fun v10=>
  cond (decide (v10=a1))
   (some (.inr (.inl ())))
   (some (.inl (j9 .i64 (s0+1)))))
  (some (.inr (.inr s0)))
def ql6 (a0:TI)(a1:Int)(s0:Int):qd:=⟨[(0,sl 1 zg a0,false),(1,Iv a1,false),(5,Iv s0,false)],[]⟩
def qol (a0:TI)(a1:Int):Unit⊕Int→qj×qd
 | .inl d=>(.ret,⟨[(4,.bool true,false)],[]⟩)
 | .inr d=>(.exit 0,⟨[(0,sl 1 zg a0,false),(1,Iv a1,false),(5,Iv d,false),(9,.bool false,false)],[]⟩)
theorem jxa (a0:TI)(a1:Int)(s0:Int)(r)(h:qnb a0 a1 s0=some r):yt pr qul (ql6 a0 a1) (qol a0 a1) s0 r:=by
 unfold qnb at h
 rcases j4 h with⟨h9,h⟩|⟨h9,h⟩
 ·obtain⟨v10,h11,h⟩:=j0 h
  rcases j4 h with⟨h12,h⟩|⟨h12,h⟩
  ·cases h
   exact zc (by simp only[go_sem,seval,qul,ql6,h9,zm h11,h12,qol]<;>rfl)
  cases h
  exact zq (by simp only[go_sem,seval,qul,ql6,h9,zm h11,h12]<;>rfl)
 cases h
 exact zc (by simp only[go_sem,seval,qul,ql6,h9,qol]<;>rfl)
theorem jhk (a0:TI)(a1:Int){s0:Int}{d}(h:itO (qnb a0 a1) s0=some d):X pr (.loop qul) (ql6 a0 a1 s0)=some (qol a0 a1 d):=kg (jxa a0 a1) (fun d=>by rcases d with d|d<;>(intro hh;cases hh)) h
def f76 (a0:TI)(a1:Int):Option Bool:=
 j5 (itO (qnb a0 a1) 0) fun d13=>match d13 with
  | .inl d15=>
   some true
  | .inr d16=>
   some false
theorem W76 {a0:TI}{a1:Int}{r}(h:f76 a0 a1=some r):zb pr (X pr) 76 [sl 1 zg a0,Iv a1]=some (.bool r,false):=by
 unfold f76 at h
 obtain⟨d13,h14,h⟩:=j0 h
 rcases d13 with d15|d16
 ·have wh14:=jhk a0 a1 h14
  dsimp only[ql6,qol]at wh14
  obtain rfl:=oi h
  refine zk c76 ?_
  simp only[go_sem,seval,c76,wh14]
  exact⟨_,rfl⟩
 have wh14:=jhk a0 a1 h14
 dsimp only[ql6,qol]at wh14
 obtain rfl:=oi h
 refine zk c76 ?_
 simp only[go_sem,seval,c76,wh14]
 exact⟨_,rfl⟩
end Go.Z
end
