/- Chapter 4. -/
import Derived.Test.YthpnjcfibpfbfaaGreatDoorA1
set_option linter.unusedVariables false
set_option linter.unusedSimpArgs false
set_option maxRecDepth 100000
set_option maxHeartbeats 4000000
noncomputable section
namespace Go.Z
open Go Go.Abs
def f63 (a0:GRat)(a1:GRat):Option GRat:=
 some (⟨qa .i64 (a0.num+a1.num),qa .i64 (a0.den+a1.den)⟩)
theorem W63 {a0:GRat}{a1:GRat}{r}(h:f63 a0 a1=some r):qd pr (X pr) 63 [.agg [.int .i64 a0.num,.int .i64 a0.den],.agg [.int .i64 a1.num,.int .i64 a1.den]]=some (.agg [.int .i64 r.num,.int .i64 r.den],false):=by
 unfold f63 at h
 have hr:⟨qa .i64 (a0.num+a1.num),qa .i64 (a0.den+a1.den)⟩=r:=Option.some.inj h
 subst hr
 refine jg rfl ?_ (fun _=>by first|rfl|simp only[go_sem,seval]) (by first|rfl|simp only[go_sem,seval])
 rw[qm (show pr.fns 63=some c63 from rfl) (by simp)]
 simp only[go_sem,seval,c63]
 exact⟨_,rfl⟩
def f64 (a0:GRat)(a1:GRat):Option GRat:=
 some (⟨qa .i64 ((qa .i64 (a0.num*a1.num))-(qa .i64 (a0.den*a1.den))),qa .i64 ((qa .i64 (a0.num*a1.den))+(qa .i64 (a0.den*a1.num)))⟩)
theorem W64 {a0:GRat}{a1:GRat}{r}(h:f64 a0 a1=some r):qd pr (X pr) 64 [.agg [.int .i64 a0.num,.int .i64 a0.den],.agg [.int .i64 a1.num,.int .i64 a1.den]]=some (.agg [.int .i64 r.num,.int .i64 r.den],false):=by
 unfold f64 at h
 have hr:⟨qa .i64 ((qa .i64 (a0.num*a1.num))-(qa .i64 (a0.den*a1.den))),qa .i64 ((qa .i64 (a0.num*a1.den))+(qa .i64 (a0.den*a1.num)))⟩=r:=Option.some.inj h
 subst hr
 refine jg rfl ?_ (fun _=>by first|rfl|simp only[go_sem,seval]) (by first|rfl|simp only[go_sem,seval])
 rw[qm (show pr.fns 64=some c64 from rfl) (by simp)]
 simp only[go_sem,seval,c64]
 exact⟨_,rfl⟩
def f66 (a0:GRat):Option Int:=
 some (qa .i64 ((qa .i64 (a0.num*a0.num))+(qa .i64 (a0.den*a0.den))))
theorem W66 {a0:GRat}{r}(h:f66 a0=some r):qd pr (X pr) 66 [.agg [.int .i64 a0.num,.int .i64 a0.den]]=some (.int .i64 r,false):=by
 unfold f66 at h
 have hr:qa .i64 ((qa .i64 (a0.num*a0.num))+(qa .i64 (a0.den*a0.den)))=r:=Option.some.inj h
 subst hr
 refine jg rfl ?_ (fun _=>by first|rfl|simp only[go_sem,seval]) (by first|rfl|simp only[go_sem,seval])
 rw[qm (show pr.fns 66=some c66 from rfl) (by simp)]
 simp only[go_sem,seval,c66]
 exact⟨_,rfl⟩
def qlc (a0:GRat):Option Int:=
 some (qa .i64 ((qa .i64 (a0.num*a0.num))+(qa .i64 (a0.den*a0.den))))
theorem qzn {a0:GRat}{r}(h:qlc a0=some r):qd pr (X pr) 107 [.agg [.int .i64 a0.num,.int .i64 a0.den]]=some (.int .i64 r,false):=by
 unfold qlc at h
 have hr:qa .i64 ((qa .i64 (a0.num*a0.num))+(qa .i64 (a0.den*a0.den)))=r:=Option.some.inj h
 subst hr
 refine jg rfl ?_ (fun _=>by first|rfl|simp only[go_sem,seval]) (by first|rfl|simp only[go_sem,seval])
 rw[qm (show pr.fns 107=some c107 from rfl) (by simp)]
 simp only[go_sem,seval,c107]
 exact⟨_,rfl⟩
def qb1 (a0:GRat)(a1:GRat):Option GRat:=
 some (⟨qa .i64 ((qa .i64 (a0.num*a1.num))-(qa .i64 (a0.den*a1.den))),qa .i64 ((qa .i64 (a0.num*a1.den))+(qa .i64 (a0.den*a1.num)))⟩)
theorem qgt {a0:GRat}{a1:GRat}{r}(h:qb1 a0 a1=some r):qd pr (X pr) 134 [.agg [.int .i64 a0.num,.int .i64 a0.den],.agg [.int .i64 a1.num,.int .i64 a1.den]]=some (.agg [.int .i64 r.num,.int .i64 r.den],false):=by
 unfold qb1 at h
 have hr:⟨qa .i64 ((qa .i64 (a0.num*a1.num))-(qa .i64 (a0.den*a1.den))),qa .i64 ((qa .i64 (a0.num*a1.den))+(qa .i64 (a0.den*a1.num)))⟩=r:=Option.some.inj h
 subst hr
 refine jg rfl ?_ (fun _=>by first|rfl|simp only[go_sem,seval]) (by first|rfl|simp only[go_sem,seval])
 rw[qm (show pr.fns 134=some c134 from rfl) (by simp)]
 simp only[go_sem,seval,c134]
 exact⟨_,rfl⟩
def qlv (a0:GRat)(a1:GRat):Option GRat:=
 some (⟨qa .i64 (a0.num+a1.num),qa .i64 (a0.den+a1.den)⟩)
theorem qrj {a0:GRat}{a1:GRat}{r}(h:qlv a0 a1=some r):qd pr (X pr) 158 [.agg [.int .i64 a0.num,.int .i64 a0.den],.agg [.int .i64 a1.num,.int .i64 a1.den]]=some (.agg [.int .i64 r.num,.int .i64 r.den],false):=by
 unfold qlv at h
 have hr:⟨qa .i64 (a0.num+a1.num),qa .i64 (a0.den+a1.den)⟩=r:=Option.some.inj h
 subst hr
 refine jg rfl ?_ (fun _=>by first|rfl|simp only[go_sem,seval]) (by first|rfl|simp only[go_sem,seval])
 rw[qm (show pr.fns 158=some c158 from rfl) (by simp)]
 simp only[go_sem,seval,c158]
 exact⟨_,rfl⟩
def qlu (a0:ju)(a1:ju):Option ju:=
 qh (qb1 (⟨a0.m0,a0.m1⟩) (⟨a1.m0,a1.m1⟩)) fun v1=>
 qh (qb1 (⟨a0.m2,a0.m3⟩) (⟨a1.m4,a1.m5⟩)) fun v3=>
 qh (qlv v1 v3) fun v5=>
 qh (qb1 (⟨a0.m0,a0.m1⟩) (⟨a1.m2,a1.m3⟩)) fun v7=>
 qh (qb1 (⟨a0.m2,a0.m3⟩) (⟨a1.m6,a1.m7⟩)) fun v9=>
 qh (qlv v7 v9) fun v11=>
 qh (qb1 (⟨a0.m4,a0.m5⟩) (⟨a1.m0,a1.m1⟩)) fun v13=>
 qh (qb1 (⟨a0.m6,a0.m7⟩) (⟨a1.m4,a1.m5⟩)) fun v15=>
 qh (qlv v13 v15) fun v17=>
 qh (qb1 (⟨a0.m4,a0.m5⟩) (⟨a1.m2,a1.m3⟩)) fun v19=>
 qh (qb1 (⟨a0.m6,a0.m7⟩) (⟨a1.m6,a1.m7⟩)) fun v21=>
 qh (qlv v19 v21) fun v23=>
 some (⟨v5.num,v5.den,v11.num,v11.den,v17.num,v17.den,v23.num,v23.den⟩)
theorem q97 {a0:ju}{a1:ju}{r}(h:qlu a0 a1=some r):qd pr (X pr) 133 [.agg [.int .i64 a0.m0,.int .i64 a0.m1,.int .i64 a0.m2,.int .i64 a0.m3,.int .i64 a0.m4,.int .i64 a0.m5,.int .i64 a0.m6,.int .i64 a0.m7],.agg [.int .i64 a1.m0,.int .i64 a1.m1,.int .i64 a1.m2,.int .i64 a1.m3,.int .i64 a1.m4,.int .i64 a1.m5,.int .i64 a1.m6,.int .i64 a1.m7]]=some (.agg [.int .i64 r.m0,.int .i64 r.m1,.int .i64 r.m2,.int .i64 r.m3,.int .i64 r.m4,.int .i64 r.m5,.int .i64 r.m6,.int .i64 r.m7],false):=by
 unfold qlu at h
 obtain⟨v1,h2,h⟩:=qc h
 have wh2:qd pr (X pr) 134 [.agg [.int .i64 a0.m0,.int .i64 a0.m1],.agg [.int .i64 a1.m0,.int .i64 a1.m1]]=some (.agg [.int .i64 v1.num,.int .i64 v1.den],false):=qgt h2
 obtain⟨v3,h4,h⟩:=qc h
 have wh4:qd pr (X pr) 134 [.agg [.int .i64 a0.m2,.int .i64 a0.m3],.agg [.int .i64 a1.m4,.int .i64 a1.m5]]=some (.agg [.int .i64 v3.num,.int .i64 v3.den],false):=qgt h4
 obtain⟨v5,h6,h⟩:=qc h
 have wh6:qd pr (X pr) 158 [.agg [.int .i64 v1.num,.int .i64 v1.den],.agg [.int .i64 v3.num,.int .i64 v3.den]]=some (.agg [.int .i64 v5.num,.int .i64 v5.den],false):=qrj h6
 obtain⟨v7,h8,h⟩:=qc h
 have wh8:qd pr (X pr) 134 [.agg [.int .i64 a0.m0,.int .i64 a0.m1],.agg [.int .i64 a1.m2,.int .i64 a1.m3]]=some (.agg [.int .i64 v7.num,.int .i64 v7.den],false):=qgt h8
 obtain⟨v9,h10,h⟩:=qc h
 have wh10:qd pr (X pr) 134 [.agg [.int .i64 a0.m2,.int .i64 a0.m3],.agg [.int .i64 a1.m6,.int .i64 a1.m7]]=some (.agg [.int .i64 v9.num,.int .i64 v9.den],false):=qgt h10
 obtain⟨v11,h12,h⟩:=qc h
 have wh12:qd pr (X pr) 158 [.agg [.int .i64 v7.num,.int .i64 v7.den],.agg [.int .i64 v9.num,.int .i64 v9.den]]=some (.agg [.int .i64 v11.num,.int .i64 v11.den],false):=qrj h12
 obtain⟨v13,h14,h⟩:=qc h
 have wh14:qd pr (X pr) 134 [.agg [.int .i64 a0.m4,.int .i64 a0.m5],.agg [.int .i64 a1.m0,.int .i64 a1.m1]]=some (.agg [.int .i64 v13.num,.int .i64 v13.den],false):=qgt h14
 obtain⟨v15,h16,h⟩:=qc h
 have wh16:qd pr (X pr) 134 [.agg [.int .i64 a0.m6,.int .i64 a0.m7],.agg [.int .i64 a1.m4,.int .i64 a1.m5]]=some (.agg [.int .i64 v15.num,.int .i64 v15.den],false):=qgt h16
 obtain⟨v17,h18,h⟩:=qc h
 have wh18:qd pr (X pr) 158 [.agg [.int .i64 v13.num,.int .i64 v13.den],.agg [.int .i64 v15.num,.int .i64 v15.den]]=some (.agg [.int .i64 v17.num,.int .i64 v17.den],false):=qrj h18
 obtain⟨v19,h20,h⟩:=qc h
 have wh20:qd pr (X pr) 134 [.agg [.int .i64 a0.m4,.int .i64 a0.m5],.agg [.int .i64 a1.m2,.int .i64 a1.m3]]=some (.agg [.int .i64 v19.num,.int .i64 v19.den],false):=qgt h20
 obtain⟨v21,h22,h⟩:=qc h
 have wh22:qd pr (X pr) 134 [.agg [.int .i64 a0.m6,.int .i64 a0.m7],.agg [.int .i64 a1.m6,.int .i64 a1.m7]]=some (.agg [.int .i64 v21.num,.int .i64 v21.den],false):=qgt h22
 obtain⟨v23,h24,h⟩:=qc h
 have wh24:qd pr (X pr) 158 [.agg [.int .i64 v19.num,.int .i64 v19.den],.agg [.int .i64 v21.num,.int .i64 v21.den]]=some (.agg [.int .i64 v23.num,.int .i64 v23.den],false):=qrj h24
 have hr:⟨v5.num,v5.den,v11.num,v11.den,v17.num,v17.den,v23.num,v23.den⟩=r:=Option.some.inj h
 subst hr
 refine jg rfl ?_ (fun _=>by first|rfl|simp only[go_sem,seval]) (by first|rfl|simp only[go_sem,seval])
 rw[qm (show pr.fns 133=some c133 from rfl) (by simp)]
 simp only[go_sem,seval,c133,wh2,wh4,wh6,wh8,wh10,wh12,wh14,wh16,wh18,wh20,wh22,wh24]
 exact⟨_,rfl⟩
def qwp (a0:GRat):Option ju:=
 some (⟨a0.num,a0.den,1,0,0,0,a0.num,a0.den⟩)
theorem jbd {a0:GRat}{r}(h:qwp a0=some r):qd pr (X pr) 153 [.agg [.int .i64 a0.num,.int .i64 a0.den]]=some (.agg [.int .i64 r.m0,.int .i64 r.m1,.int .i64 r.m2,.int .i64 r.m3,.int .i64 r.m4,.int .i64 r.m5,.int .i64 r.m6,.int .i64 r.m7],false):=by
 unfold qwp at h
 have hr:⟨a0.num,a0.den,1,0,0,0,a0.num,a0.den⟩=r:=Option.some.inj h
 subst hr
 refine jg rfl ?_ (fun _=>by first|rfl|simp only[go_sem,seval]) (by first|rfl|simp only[go_sem,seval])
 rw[qm (show pr.fns 153=some c153 from rfl) (by simp)]
 simp only[go_sem,seval,c153]
 exact⟨_,rfl⟩
def qvh (a0:GRat):Option ju:=
 some (⟨1,0,a0.num,a0.den,0,0,1,0⟩)
theorem jau {a0:GRat}{r}(h:qvh a0=some r):qd pr (X pr) 154 [.agg [.int .i64 a0.num,.int .i64 a0.den]]=some (.agg [.int .i64 r.m0,.int .i64 r.m1,.int .i64 r.m2,.int .i64 r.m3,.int .i64 r.m4,.int .i64 r.m5,.int .i64 r.m6,.int .i64 r.m7],false):=by
 unfold qvh at h
 have hr:⟨1,0,a0.num,a0.den,0,0,1,0⟩=r:=Option.some.inj h
 subst hr
 refine jg rfl ?_ (fun _=>by first|rfl|simp only[go_sem,seval]) (by first|rfl|simp only[go_sem,seval])
 rw[qm (show pr.fns 154=some c154 from rfl) (by simp)]
 simp only[go_sem,seval,c154]
 exact⟨_,rfl⟩
def qvv (a0:GRat):Option ju:=
 some (⟨1,0,0,0,a0.num,a0.den,1,0⟩)
theorem jco {a0:GRat}{r}(h:qvv a0=some r):qd pr (X pr) 155 [.agg [.int .i64 a0.num,.int .i64 a0.den]]=some (.agg [.int .i64 r.m0,.int .i64 r.m1,.int .i64 r.m2,.int .i64 r.m3,.int .i64 r.m4,.int .i64 r.m5,.int .i64 r.m6,.int .i64 r.m7],false):=by
 unfold qvv at h
 have hr:⟨1,0,0,0,a0.num,a0.den,1,0⟩=r:=Option.some.inj h
 subst hr
 refine jg rfl ?_ (fun _=>by first|rfl|simp only[go_sem,seval]) (by first|rfl|simp only[go_sem,seval])
 rw[qm (show pr.fns 155=some c155 from rfl) (by simp)]
 simp only[go_sem,seval,c155]
 exact⟨_,rfl⟩
def f156 (a0:GRat):Option ju:=
 some (⟨a0.num,a0.den,0,0,1,0,a0.num,a0.den⟩)
theorem jc9 {a0:GRat}{r}(h:f156 a0=some r):qd pr (X pr) 156 [.agg [.int .i64 a0.num,.int .i64 a0.den]]=some (.agg [.int .i64 r.m0,.int .i64 r.m1,.int .i64 r.m2,.int .i64 r.m3,.int .i64 r.m4,.int .i64 r.m5,.int .i64 r.m6,.int .i64 r.m7],false):=by
 unfold f156 at h
 have hr:⟨a0.num,a0.den,0,0,1,0,a0.num,a0.den⟩=r:=Option.some.inj h
 subst hr
 refine jg rfl ?_ (fun _=>by first|rfl|simp only[go_sem,seval]) (by first|rfl|simp only[go_sem,seval])
 rw[qm (show pr.fns 156=some c156 from rfl) (by simp)]
 simp only[go_sem,seval,c156]
 exact⟨_,rfl⟩
def qm4 (a0:Int)(a1:Int)(s0:Int×Int):Option ((Int×Int)⊕((Int×Int))):=
 cond (decide (s0.2=0))
  (some (.inr (s0.1,s0.2)))
  (qh (qc7 s0.1 s0.2) fun v8=>
  some (.inl (s0.2,v8)))
def qku (a0:Int)(a1:Int)(s0:Int×Int):ASt:=⟨[(0,.int .i64 a0,false),(1,.int .i64 a1,false),(4,.ptr 0 0,false),(5,.int .i64 s0.1,false),(6,.int .i64 s0.2,false)],[.cells [(.int .i64 0,false),(.int .i64 0,false)]]⟩
def qny (a0:Int)(a1:Int)(d:(Int×Int)):jo×ASt:=(.exit 0,⟨[(0,.int .i64 a0,false),(1,.int .i64 a1,false),(4,.ptr 0 0,false),(5,.int .i64 d.1,false),(6,.int .i64 d.2,false),(10,.bool false,false)],[.cells [(.int .i64 0,false),(.int .i64 0,false)]]⟩)
theorem q5g (a0:Int)(a1:Int)(s0:Int×Int)(r)(h:qm4 a0 a1 s0=some r):qbm pr qig (qku a0 a1) (qny a0 a1) s0 r:=by
 unfold qm4 at h
 rcases qr h with⟨h7,h⟩|⟨h7,h⟩
 ·cases h
  exact zi (by simp only[go_sem,seval,qig,qku,h7,qny]<;>rfl)
 ·obtain⟨v8,h9,h⟩:=qc h
  cases h
  exact zz (st':=⟨[(0,.int .i64 a0,false),(1,.int .i64 a1,false),(4,.ptr 0 0,false),(5,.int .i64 s0.2,false),(6,.int .i64 v8,false)],[.cells [(.int .i64 0,false),(.int .i64 0,false)]]⟩) (by simp only[go_sem,seval,qig,qku,h7,jp h9]<;>rfl) (qc1 (Nat.le_refl _))
theorem q7n (a0:Int)(a1:Int){s0:Int×Int}{d}(h:itO (qm4 a0 a1) s0=some d):X pr (.loop qig) (qku a0 a1 s0)=some (qny a0 a1 d):=qd6 (q5g a0 a1) (fun d hh=>by cases hh) h
def f65 (a0:Int)(a1:Int):Option GRat:=
 qh (itO (qm4 a0 a1) (a0,a1)) fun d10=>
 qh (qdw .i64 a0 d10.1) fun v12=>
 qh (qdw .i64 a1 d10.1) fun v14=>
 some (⟨v12,v14⟩)
theorem W65 {a0:Int}{a1:Int}{r}(h:f65 a0 a1=some r):qd pr (X pr) 65 [.int .i64 a0,.int .i64 a1]=some (.agg [.int .i64 r.num,.int .i64 r.den],false):=by
 unfold f65 at h
 obtain⟨d10,h11,h⟩:=qc h
 have wh11:X pr (.loop qig) ⟨[(0,.int .i64 a0,false),(1,.int .i64 a1,false),(4,.ptr 0 0,false),(5,.int .i64 a0,false),(6,.int .i64 a1,false)],[.cells [(.int .i64 0,false),(.int .i64 0,false)]]⟩=some (.exit 0,⟨[(0,.int .i64 a0,false),(1,.int .i64 a1,false),(4,.ptr 0 0,false),(5,.int .i64 d10.1,false),(6,.int .i64 d10.2,false),(10,.bool false,false)],[.cells [(.int .i64 0,false),(.int .i64 0,false)]]⟩):=q7n a0 a1 h11
 obtain⟨v12,h13,h⟩:=qc h
 obtain⟨v14,h15,h⟩:=qc h
 have hr:⟨v12,v14⟩=r:=Option.some.inj h
 subst hr
 refine jg rfl ?_ (fun _=>by first|rfl|simp only[go_sem,seval]) (by first|rfl|simp only[go_sem,seval])
 rw[qm (show pr.fns 65=some c65 from rfl) (by simp)]
 simp only[go_sem,seval,c65,wh11,qcc h13,qcc h15]
 exact⟨_,rfl⟩
def qkn (a0:Int)(a1:Int)(s0:Int×Int):Option ((Int×Int)⊕((Int×Int))):=
 cond (decide (s0.2=0))
  (some (.inr (s0.1,s0.2)))
  (qh (qc7 s0.1 s0.2) fun v8=>
  some (.inl (s0.2,v8)))
def qij (a0:Int)(a1:Int)(s0:Int×Int):ASt:=⟨[(0,.int .i64 a0,false),(1,.int .i64 a1,false),(4,.ptr 0 0,false),(5,.int .i64 s0.1,false),(6,.int .i64 s0.2,false)],[.cells [(.int .i64 0,false),(.int .i64 0,false)]]⟩
def qlg (a0:Int)(a1:Int)(d:(Int×Int)):jo×ASt:=(.exit 0,⟨[(0,.int .i64 a0,false),(1,.int .i64 a1,false),(4,.ptr 0 0,false),(5,.int .i64 d.1,false),(6,.int .i64 d.2,false),(10,.bool false,false)],[.cells [(.int .i64 0,false),(.int .i64 0,false)]]⟩)
theorem q1k (a0:Int)(a1:Int)(s0:Int×Int)(r)(h:qkn a0 a1 s0=some r):qbm pr qf0 (qij a0 a1) (qlg a0 a1) s0 r:=by
 unfold qkn at h
 rcases qr h with⟨h7,h⟩|⟨h7,h⟩
 ·cases h
  exact zi (by simp only[go_sem,seval,qf0,qij,h7,qlg]<;>rfl)
 ·obtain⟨v8,h9,h⟩:=qc h
  cases h
  exact zz (st':=⟨[(0,.int .i64 a0,false),(1,.int .i64 a1,false),(4,.ptr 0 0,false),(5,.int .i64 s0.2,false),(6,.int .i64 v8,false)],[.cells [(.int .i64 0,false),(.int .i64 0,false)]]⟩) (by simp only[go_sem,seval,qf0,qij,h7,jp h9]<;>rfl) (qc1 (Nat.le_refl _))
theorem qzl (a0:Int)(a1:Int){s0:Int×Int}{d}(h:itO (qkn a0 a1) s0=some d):X pr (.loop qf0) (qij a0 a1 s0)=some (qlg a0 a1 d):=qd6 (q1k a0 a1) (fun d hh=>by cases hh) h
def qoi (a0:Int)(a1:Int):Option GRat:=
 qh (itO (qkn a0 a1) (a0,a1)) fun d10=>
 qh (qdw .i64 a0 d10.1) fun v12=>
 qh (qdw .i64 a1 d10.1) fun v14=>
 some (⟨v12,v14⟩)
theorem jaz {a0:Int}{a1:Int}{r}(h:qoi a0 a1=some r):qd pr (X pr) 106 [.int .i64 a0,.int .i64 a1]=some (.agg [.int .i64 r.num,.int .i64 r.den],false):=by
 unfold qoi at h
 obtain⟨d10,h11,h⟩:=qc h
 have wh11:X pr (.loop qf0) ⟨[(0,.int .i64 a0,false),(1,.int .i64 a1,false),(4,.ptr 0 0,false),(5,.int .i64 a0,false),(6,.int .i64 a1,false)],[.cells [(.int .i64 0,false),(.int .i64 0,false)]]⟩=some (.exit 0,⟨[(0,.int .i64 a0,false),(1,.int .i64 a1,false),(4,.ptr 0 0,false),(5,.int .i64 d10.1,false),(6,.int .i64 d10.2,false),(10,.bool false,false)],[.cells [(.int .i64 0,false),(.int .i64 0,false)]]⟩):=qzl a0 a1 h11
 obtain⟨v12,h13,h⟩:=qc h
 obtain⟨v14,h15,h⟩:=qc h
 have hr:⟨v12,v14⟩=r:=Option.some.inj h
 subst hr
 refine jg rfl ?_ (fun _=>by first|rfl|simp only[go_sem,seval]) (by first|rfl|simp only[go_sem,seval])
 rw[qm (show pr.fns 106=some c106 from rfl) (by simp)]
 simp only[go_sem,seval,c106,wh11,qcc h13,qcc h15]
 exact⟨_,rfl⟩
def qm9 (a0:Int)(a1:Int)(s0:Int×Int):Option ((Int×Int)⊕((Int×Int))):=
 cond (decide (s0.2=0))
  (some (.inr (s0.1,s0.2)))
  (qh (qc7 s0.1 s0.2) fun v9=>
  some (.inl (s0.2,v9)))
def qka (a0:Int)(a1:Int)(s0:Int×Int):ASt:=⟨[(0,.int .i64 (qa .i64 (0-a0)),false),(1,.int .i64 (qa .i64 (0-a1)),false),(4,.ptr 0 0,false),(5,.int .i64 s0.1,false),(6,.int .i64 s0.2,false)],[.cells [(.int .i64 0,false),(.int .i64 0,false)]]⟩
def qo0 (a0:Int)(a1:Int)(d:(Int×Int)):jo×ASt:=(.exit 0,⟨[(0,.int .i64 (qa .i64 (0-a0)),false),(1,.int .i64 (qa .i64 (0-a1)),false),(4,.ptr 0 0,false),(5,.int .i64 d.1,false),(6,.int .i64 d.2,false),(19,.bool false,false)],[.cells [(.int .i64 0,false),(.int .i64 0,false)]]⟩)
theorem q6a (a0:Int)(a1:Int)(s0:Int×Int)(r)(h:qm9 a0 a1 s0=some r):qbm pr qcd (qka a0 a1) (qo0 a0 a1) s0 r:=by
 unfold qm9 at h
 rcases qr h with⟨h8,h⟩|⟨h8,h⟩
 ·cases h
  exact zi (by simp only[go_sem,seval,qcd,qka,h8,qo0]<;>rfl)
 ·obtain⟨v9,h10,h⟩:=qc h
  cases h
  exact zz (st':=⟨[(0,.int .i64 (qa .i64 (0-a0)),false),(1,.int .i64 (qa .i64 (0-a1)),false),(4,.ptr 0 0,false),(5,.int .i64 s0.2,false),(6,.int .i64 v9,false)],[.cells [(.int .i64 0,false),(.int .i64 0,false)]]⟩) (by simp only[go_sem,seval,qcd,qka,h8,jp h10]<;>rfl) (qc1 (Nat.le_refl _))
theorem q5w (a0:Int)(a1:Int){s0:Int×Int}{d}(h:itO (qm9 a0 a1) s0=some d):X pr (.loop qcd) (qka a0 a1 s0)=some (qo0 a0 a1 d):=qd6 (q6a a0 a1) (fun d hh=>by cases hh) h
def qjx (a0:Int)(a1:Int)(s0:Int×Int):Option ((Int×Int)⊕((Int×Int))):=
 cond (decide (s0.2=0))
  (some (.inr (s0.1,s0.2)))
  (qh (qc7 s0.1 s0.2) fun v24=>
  some (.inl (s0.2,v24)))
def qii (a0:Int)(a1:Int)(s0:Int×Int):ASt:=⟨[(0,.int .i64 a0,false),(1,.int .i64 a1,false),(4,.ptr 0 0,false),(5,.int .i64 s0.1,false),(6,.int .i64 s0.2,false)],[.cells [(.int .i64 0,false),(.int .i64 0,false)]]⟩
def qlk (a0:Int)(a1:Int)(d:(Int×Int)):jo×ASt:=(.exit 0,⟨[(0,.int .i64 a0,false),(1,.int .i64 a1,false),(4,.ptr 0 0,false),(5,.int .i64 d.1,false),(6,.int .i64 d.2,false),(19,.bool false,false)],[.cells [(.int .i64 0,false),(.int .i64 0,false)]]⟩)
theorem q1w (a0:Int)(a1:Int)(s0:Int×Int)(r)(h:qjx a0 a1 s0=some r):qbm pr qcd (qii a0 a1) (qlk a0 a1) s0 r:=by
 unfold qjx at h
 rcases qr h with⟨h23,h⟩|⟨h23,h⟩
 ·cases h
  exact zi (by simp only[go_sem,seval,qcd,qii,h23,qlk]<;>rfl)
 ·obtain⟨v24,h25,h⟩:=qc h
  cases h
  exact zz (st':=⟨[(0,.int .i64 a0,false),(1,.int .i64 a1,false),(4,.ptr 0 0,false),(5,.int .i64 s0.2,false),(6,.int .i64 v24,false)],[.cells [(.int .i64 0,false),(.int .i64 0,false)]]⟩) (by simp only[go_sem,seval,qcd,qii,h23,jp h25]<;>rfl) (qc1 (Nat.le_refl _))
theorem q09 (a0:Int)(a1:Int){s0:Int×Int}{d}(h:itO (qjx a0 a1) s0=some d):X pr (.loop qcd) (qii a0 a1 s0)=some (qlk a0 a1 d):=qd6 (q1w a0 a1) (fun d hh=>by cases hh) h
def f29 (a0:Int)(a1:Int):Option GRat:=
 cond (decide (a1<0))
  (qh (itO (qm9 a0 a1) (max (qa .i64 (0-a0)) (qa .i64 (0-(qa .i64 (0-a0)))),qa .i64 (0-a1))) fun d11=>
  qh (qdw .i64 (qa .i64 (0-a0)) d11.1) fun v13=>
  qh (qdw .i64 (qa .i64 (0-a1)) d11.1) fun v15=>
  some (⟨v13,v15⟩))
  (qh (itO (qjx a0 a1) (max a0 (qa .i64 (0-a0)),a1)) fun d26=>
  qh (qdw .i64 a0 d26.1) fun v28=>
  qh (qdw .i64 a1 d26.1) fun v30=>
  some (⟨v28,v30⟩))
theorem W29 {a0:Int}{a1:Int}{r}(h:f29 a0 a1=some r):qd pr (X pr) 29 [.int .i64 a0,.int .i64 a1]=some (.agg [.int .i64 r.num,.int .i64 r.den],false):=by
 unfold f29 at h
 rcases qr h with⟨h1,h⟩|⟨h1,h⟩
 ·obtain⟨d11,h12,h⟩:=qc h
  have wh12:X pr (.loop qcd) ⟨[(0,.int .i64 (qa .i64 (0-a0)),false),(1,.int .i64 (qa .i64 (0-a1)),false),(4,.ptr 0 0,false),(5,.int .i64 (max (qa .i64 (0-a0)) (qa .i64 (0-(qa .i64 (0-a0))))),false),(6,.int .i64 (qa .i64 (0-a1)),false)],[.cells [(.int .i64 0,false),(.int .i64 0,false)]]⟩=some (.exit 0,⟨[(0,.int .i64 (qa .i64 (0-a0)),false),(1,.int .i64 (qa .i64 (0-a1)),false),(4,.ptr 0 0,false),(5,.int .i64 d11.1,false),(6,.int .i64 d11.2,false),(19,.bool false,false)],[.cells [(.int .i64 0,false),(.int .i64 0,false)]]⟩):=q5w a0 a1 h12
  obtain⟨v13,h14,h⟩:=qc h
  obtain⟨v15,h16,h⟩:=qc h
  have hr:⟨v13,v15⟩=r:=Option.some.inj h
  subst hr
  refine jg rfl ?_ (fun _=>by first|rfl|simp only[go_sem,seval]) (by first|rfl|simp only[go_sem,seval])
  rw[qm (show pr.fns 29=some c29 from rfl) (by simp)]
  simp only[go_sem,seval,c29,h1,wh12,qcc h14,qcc h16]
  exact⟨_,rfl⟩
 ·obtain⟨d26,h27,h⟩:=qc h
  have wh27:X pr (.loop qcd) ⟨[(0,.int .i64 a0,false),(1,.int .i64 a1,false),(4,.ptr 0 0,false),(5,.int .i64 (max a0 (qa .i64 (0-a0))),false),(6,.int .i64 a1,false)],[.cells [(.int .i64 0,false),(.int .i64 0,false)]]⟩=some (.exit 0,⟨[(0,.int .i64 a0,false),(1,.int .i64 a1,false),(4,.ptr 0 0,false),(5,.int .i64 d26.1,false),(6,.int .i64 d26.2,false),(19,.bool false,false)],[.cells [(.int .i64 0,false),(.int .i64 0,false)]]⟩):=q09 a0 a1 h27
  obtain⟨v28,h29,h⟩:=qc h
  obtain⟨v30,h31,h⟩:=qc h
  have hr:⟨v28,v30⟩=r:=Option.some.inj h
  subst hr
  refine jg rfl ?_ (fun _=>by first|rfl|simp only[go_sem,seval]) (by first|rfl|simp only[go_sem,seval])
  rw[qm (show pr.fns 29=some c29 from rfl) (by simp)]
  simp only[go_sem,seval,c29,h1,wh27,qcc h29,qcc h31]
  exact⟨_,rfl⟩
def pcL:ACode→ACode
 | .seq a _=>a
 |x=>x
def pcR:ACode→ACode
 | .seq _ b=>b
 |x=>x
def pcB:ACode→ACode
 | .block _ b=>b
 |x=>x
def rfA:ACode→ACode
 | .rangeFunc _ _ a _=>a
 |x=>x
def rfB:ACode→ACode
 | .rangeFunc _ _ _ b=>b
 |x=>x
theorem qrm {n:Nat}{v:AVal}{h t:qi}(hn:h.length=n)(hv:Abs.below n v=true)(hb:js n h=true):ya n v (h++t)=h:=by
 have ht:(h++t).take n=h:=by rw[←hn,List.take_left'];rfl
 unfold ya
 rw[ht,hv,hb]
 cases hc:Nat.ble (h++t).length n with
 |false=>rfl
 |true=>
  have:=Nat.le_of_ble_eq_true hc
  rw[List.length_append]at this
  have h0:t=[]:=List.length_eq_zero_iff.1 (by omega)
  subst h0
  simp
def mcs (m:ju):List (AVal×Bool):=[(.int .i64 m.m0,false),(.int .i64 m.m1,false),(.int .i64 m.m2,false),(.int .i64 m.m3,false),(.int .i64 m.m4,false),(.int .i64 m.m5,false),(.int .i64 m.m6,false),(.int .i64 m.m7,false)]
def gcs (d:GRat):List (AVal×Bool):=[(.int .i64 d.num,false),(.int .i64 d.den,false)]
def qfc:ACode:=pcB (pcR (pcL (pcR (pcR c105.body))))
def qea:ACode:=rfA qfc
def qdd:ACode:=rfB qfc
theorem qv4:qfc=.rangeFunc (.tmp 18) [19,20] qea qdd:=rfl
section
variable (l:Option (List GEl))(w:Int)
def qbd:Env:=[(4,.ptr 0 0,false),(5,.ptr 1 0,false),(6,.ptr 2 0,false),(7,.ptr 3 0,false),(18,.fn (.func 157) [] [.vptr (sl 3 vel l),.vptr (.int .i64 w)],false)]
def z2:List (AVal×Bool):=[(.int .i64 0,false),(.int .i64 0,false)]
def z8:List (AVal×Bool):=[(.int .i64 0,false),(.int .i64 0,false),(.int .i64 0,false),(.int .i64 0,false),(.int .i64 0,false),(.int .i64 0,false),(.int .i64 0,false),(.int .i64 0,false)]
def qhv (m:ju)(d:GRat):qi:=[.cells z8,.cells z2,.cells (mcs m),.cells (gcs d)]
def yf (m:ju)(d:GRat)(pd:Option jo)(t:qi):qi:=.cells z8::.cells z2::.cells (mcs m)::.cells (gcs d)::.loop ⟨qbd l w,[19,20],qea,qdd,pd⟩::t
def ke (s:List UInt8)(b:Bool)(n:Nat):AVal:=.agg [.str s,.bool b,.fn (.func n) [] []]
def ga (v:GRat):AVal:=.agg [.int .i64 v.num,.int .i64 v.den]
def tl (s:List UInt8)(b:Bool)(n:Nat)(v:GRat):qi:=[.cells [(.str s,false),(.bool b,false),(.fn (.func n) [] [],false)],.cells (gcs v)]
def t2 (x:GEl):qi:=[.map ji,.cells [(.str x.kind,false),(.int .i64 x.a,false),(.int .i64 x.b,false)]]
def qna:Env:=[(4,.ptr 0 0,false),(5,.ptr 1 0,false),(6,.ptr 2 0,false),(7,.ptr 3 0,false),(8,.ptr 7 0,false),(9,.ptr 8 0,false)]
variable {l w}
theorem qt4 {s b n}{v m d}{x:GEl}:X pr qea ⟨(20,ga v,false)::(19,ke s b n,false)::qbd l w,yf l w m d none (t2 x)⟩=some (.normal,⟨qna,yf l w m d none (t2 x++tl s b n v)⟩):=by
 simp only[go_sem,seval,qea,rfA,qfc,pcB,pcL,pcR,c105,qbd,ke,ga,yf,t2]<;>rfl
theorem qs9 {s b n}{v c m m1:_}{d d1:GRat}{x:GEl}{pd}(h1:qd pr (X pr) n [ga v]=some (.agg [.int .i64 c.m0,.int .i64 c.m1,.int .i64 c.m2,.int .i64 c.m3,.int .i64 c.m4,.int .i64 c.m5,.int .i64 c.m6,.int .i64 c.m7],false))
  (h2:qlu m c=some m1) (h3:cond b (qb1 d v) (some d)=some d1):∃e,X pr qdd ⟨qna,yf l w m d pd (t2 x++tl s b n v)⟩=some (.normal,⟨e,yf l w m1 d1 pd (t2 x++tl s b n v)⟩):=by
 have g2:=q97 h2
 simp only[ga]at h1
 cases b with
 |true=>
  have g3:=qgt (show qb1 d v=some d1 from h3)
  simp only[go_sem,seval,qdd,rfB,qfc,pcB,pcL,pcR,c105,qna,yf,t2,tl,mcs,gcs,h1,g2,g3]
  exact⟨_,rfl⟩
 |false=>
  obtain rfl:d=d1:=Option.some.inj h3
  simp only[go_sem,seval,qdd,rfB,qfc,pcB,pcL,pcR,c105,qna,yf,t2,tl,mcs,gcs,h1,g2]
  exact⟨_,rfl⟩
theorem qr3:yd 7 (qbd l w)=true:=by
 have hb:Abs.below 7 (sl 3 vel l)=true:=by simp only[go_sem,seval]
 have h1:qo 7 [.vptr (sl 3 vel l),.vptr (.int .i64 w)]=true:=by
  show(Abs.below 7 (sl 3 vel l)&&true)=true
  rw[hb];rfl
 have h2:Abs.below 7 (.fn (.func 157) [] [.vptr (sl 3 vel l),.vptr (.int .i64 w)])=true:=by
  show(true&&qo 7 [.vptr (sl 3 vel l),.vptr (.int .i64 w)])=true
  rw[h1];rfl
 simp only[qbd,yd,List.all_cons,List.all_nil,h2]
 rfl
theorem qpj:yd 6 (qbd l w)=true:=by
 have hb:Abs.below 6 (sl 3 vel l)=true:=by simp only[go_sem,seval]
 have h1:qo 6 [.vptr (sl 3 vel l),.vptr (.int .i64 w)]=true:=by
  show(Abs.below 6 (sl 3 vel l)&&true)=true
  rw[hb];rfl
 have h2:Abs.below 6 (.fn (.func 157) [] [.vptr (sl 3 vel l),.vptr (.int .i64 w)])=true:=by
  show(true&&qo 6 [.vptr (sl 3 vel l),.vptr (.int .i64 w)])=true
  rw[h1];rfl
 simp only[qbd,yd,List.all_cons,List.all_nil,h2]
 rfl
theorem qs4 {m d pd}{x:GEl}:js 7 (yf l w m d pd (t2 x))=true:=by
 simp only[yf,t2,js,List.all_cons,List.all_nil,qag,qr3,mcs,gcs,z8,z2,ji]
 rfl
theorem ja8 {s b n}{v c m m1:_}{d d1:GRat}{x:GEl}(h1:qd pr (X pr) n [ga v]=some (.agg [.int .i64 c.m0,.int .i64 c.m1,.int .i64 c.m2,.int .i64 c.m3,.int .i64 c.m4,.int .i64 c.m5,.int .i64 c.m6,.int .i64 c.m7],false))
  (h2:qlu m c=some m1) (h3:cond b (qb1 d v) (some d)=some d1):y5 (X pr) 4 [ke s b n,ga v] (yf l w m d none (t2 x))=some (.bool true,yf l w m1 d1 none (t2 x)):=by
 have g:∀m d pd t,jl (yf l w m d pd t) 4=some (.loop ⟨qbd l w,[19,20],qea,qdd,pd⟩):=fun _ _ _ _=>rfl
 have se:qb7 (noOwn (qbd l w)) [19,20] [ke s b n,ga v]=some ((20,ga v,false)::(19,ke s b n,false)::qbd l w):=rfl
 have st:∀m d pd pd' t,(yf l w m d pd t).set 4 (.loop ⟨qbd l w,[19,20],qea,qdd,pd'⟩)=yf l w m d pd' t:=fun _ _ _ _ _=>rfl
 have hl:∀m d pd,(yf l w m d pd (t2 x)).length=7:=fun _ _ _=>rfl
 have ha:∀m d pd v t,Abs.below 7 v=true→ya 7 v (yf l w m d pd (t2 x++t))=yf l w m d pd (t2 x):=fun m d pd v t hv=>qrm (h:=yf l w m d pd (t2 x)) rfl hv qs4
 obtain⟨e,hb⟩:=qs9 (l:=l) (w:=w) (s:=s) (x:=x) (pd:=some .normal) h1 h2 h3
 unfold y5
 simp only[g,se,qt4,Option.isNone_none,cond_true,st,hl,hb]
 rw[ha _ _ _ _ _ rfl]
end
def kOf (s:List UInt8)(v:GRat):Option (ju×Bool):=
 cond (decide (s=([98,108,111,99,107]:List UInt8))) (qh (qwp v) fun c=>some (c,true))
  (cond (decide (s=([115,101,114,105,101,115]:List UInt8))) (qh (qvh v) fun c=>some (c,false))
  (cond (decide (s=([115,104,117,110,116]:List UInt8))) (qh (qvv v) fun c=>some (c,false))
   (cond (decide (s=([116,114,97,112]:List UInt8))) (qh (f156 v) fun c=>some (c,true)) none)))
theorem qx1 {s:List UInt8}{v:GRat}{c b}(h:kOf s v=some (c,b)):∃t k n,jj .str (.str s) ji 0=some (some (t,ke k b n))∧qd pr (X pr) n [ga v]=some (.agg [.int .i64 c.m0,.int .i64 c.m1,.int .i64 c.m2,.int .i64 c.m3,.int .i64 c.m4,.int .i64 c.m5,.int .i64 c.m6,.int .i64 c.m7],false):=by
 unfold kOf at h
 rcases qr h with⟨h1,k⟩|⟨h1,k⟩
 ·obtain⟨c',h2,k⟩:=qc k
  cases k
  exact⟨_,_,_,qjq h1,jbd h2⟩
 rcases qr k with⟨h2,k⟩|⟨h2,k⟩
 ·obtain⟨c',h3,k⟩:=qc k
  cases k
  exact⟨_,_,_,qre h1 h2,jau h3⟩
 rcases qr k with⟨h3,k⟩|⟨h3,k⟩
 ·obtain⟨c',h4,k⟩:=qc k
  cases k
  exact⟨_,_,_,qst h1 h2 h3,jco h4⟩
 rcases qr k with⟨h4,k⟩|⟨h4,k⟩
 ·obtain⟨c',h5,k⟩:=qc k
  cases k
  exact⟨_,_,_,qj2 h1 h2 h3 h4,jc9 h5⟩
 ·cases k
def qmz (w:Int)(q:ju×GRat)(x:GEl):Option (ju×GRat):=
 qh (kOf x.kind ⟨x.a,qa .i64 (w*x.b)⟩) fun c=>qh (qlu q.1 c.1) fun m=>qh (cond c.2 (qb1 q.2 ⟨x.a,qa .i64 (w*x.b)⟩) (some q.2)) fun d=>some (m,d)
def qfb (w:Int):List GEl→ju×GRat→Option (ju×GRat)
 | [],q=>some q
 |x::l,q=>qh (qmz w q x) fun q'=>qfb w l q'
def qo1 (w:Int)(l:Option (List GEl))(d:Int×ju×GRat):Option ((Int×ju×GRat)⊕(Int×ju×GRat)):=
 cond (decide (d.1<((l.getD []).length:Int))) (qh (qgs (l.getD []) d.1) fun x=>qh (qmz w d.2 x) fun q=>some (.inl (qa .i64 (d.1+1),q))) (some (.inr d))
def qki (w:Int)(l:Option (List GEl))(d:Int×ju×GRat):ASt:=⟨[(0,.fn (.yield 4) [] [],false),(2,.vptr (.int .i64 w),false),(4,.map 5,false),(8,sl 3 vel l,false),(9,.int .i64 ((l.getD []).length:Int),false),(10,.int .i64 d.1,false)],yf l w d.2.1 d.2.2 none [.map ji]⟩
def qm1 (w:Int)(l:Option (List GEl))(d:Int×ju×GRat):jo×ASt:=(.exit 0,⟨[(0,.fn (.yield 4) [] [],false),(2,.vptr (.int .i64 w),false),(4,.map 5,false),(8,sl 3 vel l,false),(9,.int .i64 ((l.getD []).length:Int),false),(10,.int .i64 d.1,false),(11,.bool false,false)],yf l w d.2.1 d.2.2 none [.map ji]⟩)
theorem jc4 {w:Int}{l:Option (List GEl)}(d:Int×ju×GRat)(r)(h:qo1 w l d=some r):qbm pr qh0 (qki w l) (qm1 w l) d r:=by
 obtain⟨i,m,e⟩:=d
 unfold qo1 at h
 dsimp only at h
 rcases qr h with⟨h1,k⟩|⟨h1,k⟩
 ·obtain⟨x,h2,k⟩:=qc k
  obtain⟨q,h3,k⟩:=qc k
  cases k
  unfold qmz at h3
  obtain⟨⟨c,b⟩,h4,k⟩:=qc h3
  obtain⟨m1,h5,k⟩:=qc k
  obtain⟨d1,h6,k⟩:=qc k
  cases k
  obtain⟨t,kk,n,g1,g2⟩:=qx1 h4
  have hy:=ja8 (l:=l) (w:=w) (s:=kk) (x:=x) g2 h5 h6
  simp only[yf,t2,ke,ga]at hy g1
  refine zz (st':=⟨[(0,.fn (.yield 4) [] [],false),(2,.vptr (.int .i64 w),false),(4,.map 5,false),(8,sl 3 vel l,false),(9,.int .i64 ((l.getD []).length:Int),false),(10,.int .i64 (qa .i64 (i+1)),false)],yf l w m1 d1 none (t2 x)⟩) (by simp only[go_sem,seval,qh0,qki,yf,t2,h1,yn h2,g1,hy]<;>rfl) ?_
  exact qai (h:=yf l w m1 d1 none [.map ji]) (h':=[.cells [(.str x.kind,false),(.int .i64 x.a,false),(.int .i64 x.b,false)]]) rfl rfl (by
   have hb:Abs.below 6 (sl 3 vel l)=true:=by simp only[go_sem,seval]
   show((true&&true)&&((true&&true)&&(true&&(Abs.below 6 (sl 3 vel l)&&(true&&(true&&true))))))=true
   rw[hb];rfl) (by
   show js 6 _=true
   simp only[yf,js,List.all_cons,List.all_nil,qag,qpj,mcs,gcs,z8,z2,ji]
   rfl)
 ·cases k
  exact zi (by simp only[go_sem,seval,qh0,qki,yf,h1,qm1]<;>rfl)
theorem qxk {w:Int}{l:Option (List GEl)}(hl:(l.getD []).length≤5):∀ {k:Nat} {i:Nat} {q r:ju×GRat},(l.getD []).length=i+k→qfb w ((l.getD []).drop i) q=some r→itO (qo1 w l) ((i:Int),q)=some (((l.getD []).length:Int),r)
 |0,i,q,r,hk,h=>by
  rw[List.drop_eq_nil_of_le (by omega)]at h
  cases h
  have hd:decide ((i:Int)<((l.getD []).length:Int))=false:=decide_eq_false (by omega)
  rw[qek (d:=((i:Int),q)) (by simp only[qo1,hd,cond_false]),show(i:Int)=((l.getD []).length:Int) by omega]
 |k+1,i,q,r,hk,h=>by
  have hi:i<(l.getD []).length:=by omega
  have hx:(l.getD [])[i]?=some (l.getD [])[i]:=List.getElem?_eq_getElem hi
  rw[ql7 hx]at h
  simp only[qfb]at h
  obtain⟨q1,h1,h2⟩:=qc h
  have hd:decide ((i:Int)<((l.getD []).length:Int))=true:=decide_eq_true (by omega)
  have hw:qa .i64 ((i:Int)+1)=((i+1:Nat):Int):=by
   have:i≤4:=by omega
   match i,this with
   |0,_=>rfl
   |1,_=>rfl
   |2,_=>rfl
   |3,_=>rfl
   |4,_=>rfl
  rw[qkd (s':=(((i+1:Nat):Int),q1)) (by simp only[qo1,hd,cond_true,qnx,hx,qh,h1,hw])]
  exact qxk hl (k:=k) (i:=i+1) (by omega) h2
section
variable {l:Option (List GEl)}{w:Int}{m m1:ju}{d d1:GRat}
theorem jdf (hl:(l.getD []).length≤5)(h:qfb w (l.getD []) (m,d)=some (m1,d1)):∃t,jq pr (X pr) 157 [.fn (.yield 4) [] [],.vptr (sl 3 vel l),.vptr (.int .i64 w)] (yf l w m d none [])=some (.tup [],false,yf l w m1 d1 none t):=by
 have h0:=qxk (k:=(l.getD []).length) (i:=0) hl (by omega) (by rw[List.drop_zero];exact h)
 have h1:X pr (.loop qh0) (qki w l (0,m,d))=some (qm1 w l (((l.getD []).length:Int),m1,d1)):=qd6 jc4 (fun d=>by intro hh;cases hh) h0
 rw[qm (show pr.fns 157=some c157 from rfl) (by simp)]
 have hm:pr.maps 129=some ji:=rfl
 simp only[qki,qm1,yf]at h1 ⊢
 simp only[go_sem,seval,c157,h1,hm]
 exact⟨_,rfl⟩
theorem qvt (hl:(l.getD []).length≤5)(h:qfb w (l.getD []) (m,d)=some (m1,d1)):X pr qfc ⟨qbd l w,qhv m d⟩=some (.normal,⟨qbd l w,qhv m1 d1⟩):=by
 obtain⟨t,h1⟩:=jdf hl h
 have hb:∀m d,js 4 (qhv m d)=true:=by
  intro m d
  simp only[qhv,js,List.all_cons,List.all_nil,qag,mcs,gcs,z8,z2]
  rfl
 rw[qv4,qqs]
 unfold ky
 have hn:(jr qea&&jr qdd)=true:=rfl
 have he:qe (qbd l w) (.tmp 18)=some (.fn (.func 157) [] [.vptr (sl 3 vel l),.vptr (.int .i64 w)]):=rfl
 have hl:∀m d,(qhv m d).length=4:=fun _ _=>rfl
 have hap:qhv m d++[.loop ⟨qbd l w,[19,20],qea,qdd,none⟩]=yf l w m d none []:=rfl
 have hg:jl (yf l w m1 d1 none t) 4=some (.loop ⟨qbd l w,[19,20],qea,qdd,none⟩):=rfl
 have ht:(yf l w m1 d1 none t).take 4=qhv m1 d1:=rfl
 simp only[hn,cond_true,he,hl,List.nil_append,List.cons_append,hap,h1,hg,ht,hb]
end
def qt9:ACode:=pcL c105.body
def qta:ACode:=pcL (pcR c105.body)
def quv:ACode:=pcL (pcL (pcR (pcR c105.body)))
def qtv:ACode:=pcR (pcR (pcR c105.body))
def qlt (l:Option (List GEl))(w:Int):Option (ju×GRat):=cond (decide ((l.getD []).length≤5)) (qfb w (l.getD []) (⟨1,0,0,0,0,0,1,0⟩,⟨1,0⟩)) none
theorem jcf {l:Option (List GEl)}{w:Int}:qd pr (X pr) 132 [sl 3 vel l,.int .i64 w]=some (.fn (.func 157) [] [.vptr (sl 3 vel l),.vptr (.int .i64 w)],false):=by
 have this:∃hh,jq pr (X pr) 132 [sl 3 vel l,.int .i64 w] []=some (.fn (.func 157) [] [.vptr (sl 3 vel l),.vptr (.int .i64 w)],false,hh):=by
  rw[qm (show pr.fns 132=some c132 from rfl) (by simp)]
  simp only[go_sem,seval,c132]
  exact⟨_,rfl⟩
 obtain⟨hh,this⟩:=this
 have hb:Abs.below 0 (sl 3 vel l)=true:=by simp only[go_sem,seval]
 have hp:Abs.below 0 (.fn (.func 157) [] [.vptr (sl 3 vel l),.vptr (.int .i64 w)])=true:=by
  show(true&&(Abs.below 0 (sl 3 vel l)&&true))=true
  rw[hb];rfl
 exact yb rfl this (by first|rfl|simp only[go_sem,seval]) (by first|exact hp|simp only[go_sem,seval])
theorem qzf {l:Option (List GEl)}{w:Int}{r}(h:qlt l w=some r):qd pr (X pr) 105 [sl 3 vel l,.int .i64 w]=some (.tup [.agg [.int .i64 r.1.m0,.int .i64 r.1.m1,.int .i64 r.1.m2,.int .i64 r.1.m3,.int .i64 r.1.m4,.int .i64 r.1.m5,.int .i64 r.1.m6,.int .i64 r.1.m7],.agg [.int .i64 r.2.num,.int .i64 r.2.den]],false):=by
 unfold qlt at h
 rcases qr h with⟨h1,k⟩|⟨h1,k⟩
 ·obtain⟨m,d⟩:=r
  have hx:=qvt (by simpa using h1) k
  have g205:=jcf (l:=l) (w:=w)
  have this:∃hh,jq pr (X pr) 105 [sl 3 vel l,.int .i64 w] []=some (.tup [.agg [.int .i64 m.m0,.int .i64 m.m1,.int .i64 m.m2,.int .i64 m.m3,.int .i64 m.m4,.int .i64 m.m5,.int .i64 m.m6,.int .i64 m.m7],.agg [.int .i64 d.num,.int .i64 d.den]],false,hh):=by
   rw[qm (show pr.fns 105=some ⟨34,.seq qt9 (.seq qta (.seq (.seq quv (.block 0 qfc)) qtv)),[.cell 4 true 8,.cell 5 true 2]⟩from rfl) (by simp)]
   simp only[qbd,qhv,mcs,gcs,z8,z2]at hx
   simp only[go_sem,seval,qt9,qta,quv,qtv,pcL,pcR,c105,g205,hx]
   exact⟨_,rfl⟩
  obtain⟨hh,this⟩:=this
  exact yb rfl this (by first|rfl|simp only[go_sem,seval]) (by first|rfl|simp only[go_sem,seval])
 ·cases k
end Go.Z
end
