/- Chapter 4. -/
import Derived.Test.YtnjngdcbkkonnaaGreatDoorA1
set_option linter.unusedVariables false
set_option linter.unusedSimpArgs false
set_option maxRecDepth 100000
set_option maxHeartbeats 4000000
namespace Go.Z
open Go Go.Abs
noncomputable def f175 (a0:GRat):Option Int:=
 some (qf .i64 ((qf .i64 (a0.num * a0.num)) + (qf .i64 (a0.den * a0.den))))
theorem jdo {a0:GRat} {r} (h:f175 a0=some r):qc pr (X pr) 175 [.agg [.int .i64 a0.num,.int .i64 a0.den]]=some (.int .i64 r,false):=by
 unfold f175 at h
 have hr:qf .i64 ((qf .i64 (a0.num * a0.num)) + (qf .i64 (a0.den * a0.den)))=r:=Option.some.inj h
 subst hr
 refine qy rfl ?_ (fun _=>by first | rfl | simp only [go_sem,seval]) (by first | rfl | simp only [go_sem,seval])
 rw [qh (show pr.fns 175=some c175 from rfl) (by simp)]
 simp only [go_sem,seval,c175]
 exact ⟨_,rfl⟩
noncomputable def f207 (a0:GRat) (a1:GRat):Option GRat:=
 some (⟨qf .i64 ((qf .i64 (a0.num * a1.num)) - (qf .i64 (a0.den * a1.den))),qf .i64 ((qf .i64 (a0.num * a1.den)) + (qf .i64 (a0.den * a1.num)))⟩)
theorem qly {a0:GRat} {a1:GRat} {r} (h:f207 a0 a1=some r):qc pr (X pr) 207 [.agg [.int .i64 a0.num,.int .i64 a0.den],.agg [.int .i64 a1.num,.int .i64 a1.den]]=some (.agg [.int .i64 r.num,.int .i64 r.den],false):=by
 unfold f207 at h
 have hr:⟨qf .i64 ((qf .i64 (a0.num * a1.num)) - (qf .i64 (a0.den * a1.den))),qf .i64 ((qf .i64 (a0.num * a1.den)) + (qf .i64 (a0.den * a1.num)))⟩=r:=Option.some.inj h
 subst hr
 refine qy rfl ?_ (fun _=>by first | rfl | simp only [go_sem,seval]) (by first | rfl | simp only [go_sem,seval])
 rw [qh (show pr.fns 207=some c207 from rfl) (by simp)]
 simp only [go_sem,seval,c207]
 exact ⟨_,rfl⟩
noncomputable def f234 (a0:GRat) (a1:GRat):Option GRat:=
 some (⟨qf .i64 (a0.num + a1.num),qf .i64 (a0.den + a1.den)⟩)
theorem q2j {a0:GRat} {a1:GRat} {r} (h:f234 a0 a1=some r):qc pr (X pr) 234 [.agg [.int .i64 a0.num,.int .i64 a0.den],.agg [.int .i64 a1.num,.int .i64 a1.den]]=some (.agg [.int .i64 r.num,.int .i64 r.den],false):=by
 unfold f234 at h
 have hr:⟨qf .i64 (a0.num + a1.num),qf .i64 (a0.den + a1.den)⟩=r:=Option.some.inj h
 subst hr
 refine qy rfl ?_ (fun _=>by first | rfl | simp only [go_sem,seval]) (by first | rfl | simp only [go_sem,seval])
 rw [qh (show pr.fns 234=some c234 from rfl) (by simp)]
 simp only [go_sem,seval,c234]
 exact ⟨_,rfl⟩
noncomputable def f206 (a0:yb) (a1:yb):Option yb:=
 qe (f207 (⟨a0.m0,a0.m1⟩) (⟨a1.m0,a1.m1⟩)) fun v1=>
 qe (f207 (⟨a0.m2,a0.m3⟩) (⟨a1.m4,a1.m5⟩)) fun v3=>
 qe (f234 v1 v3) fun v5=>
 qe (f207 (⟨a0.m0,a0.m1⟩) (⟨a1.m2,a1.m3⟩)) fun v7=>
 qe (f207 (⟨a0.m2,a0.m3⟩) (⟨a1.m6,a1.m7⟩)) fun v9=>
 qe (f234 v7 v9) fun v11=>
 qe (f207 (⟨a0.m4,a0.m5⟩) (⟨a1.m0,a1.m1⟩)) fun v13=>
 qe (f207 (⟨a0.m6,a0.m7⟩) (⟨a1.m4,a1.m5⟩)) fun v15=>
 qe (f234 v13 v15) fun v17=>
 qe (f207 (⟨a0.m4,a0.m5⟩) (⟨a1.m2,a1.m3⟩)) fun v19=>
 qe (f207 (⟨a0.m6,a0.m7⟩) (⟨a1.m6,a1.m7⟩)) fun v21=>
 qe (f234 v19 v21) fun v23=>
 some (⟨v5.num,v5.den,v11.num,v11.den,v17.num,v17.den,v23.num,v23.den⟩)
theorem jtd {a0:yb} {a1:yb} {r} (h:f206 a0 a1=some r):qc pr (X pr) 206 [.agg [.int .i64 a0.m0,.int .i64 a0.m1,.int .i64 a0.m2,.int .i64 a0.m3,.int .i64 a0.m4,.int .i64 a0.m5,.int .i64 a0.m6,.int .i64 a0.m7],.agg [.int .i64 a1.m0,.int .i64 a1.m1,.int .i64 a1.m2,.int .i64 a1.m3,.int .i64 a1.m4,.int .i64 a1.m5,.int .i64 a1.m6,.int .i64 a1.m7]]=some (.agg [.int .i64 r.m0,.int .i64 r.m1,.int .i64 r.m2,.int .i64 r.m3,.int .i64 r.m4,.int .i64 r.m5,.int .i64 r.m6,.int .i64 r.m7],false):=by
 unfold f206 at h
 obtain ⟨v1,h2,h⟩:=qa h
 have wh2:qc pr (X pr) 207 [.agg [.int .i64 a0.m0,.int .i64 a0.m1],.agg [.int .i64 a1.m0,.int .i64 a1.m1]]=some (.agg [.int .i64 v1.num,.int .i64 v1.den],false):=qly h2
 obtain ⟨v3,h4,h⟩:=qa h
 have wh4:qc pr (X pr) 207 [.agg [.int .i64 a0.m2,.int .i64 a0.m3],.agg [.int .i64 a1.m4,.int .i64 a1.m5]]=some (.agg [.int .i64 v3.num,.int .i64 v3.den],false):=qly h4
 obtain ⟨v5,h6,h⟩:=qa h
 have wh6:qc pr (X pr) 234 [.agg [.int .i64 v1.num,.int .i64 v1.den],.agg [.int .i64 v3.num,.int .i64 v3.den]]=some (.agg [.int .i64 v5.num,.int .i64 v5.den],false):=q2j h6
 obtain ⟨v7,h8,h⟩:=qa h
 have wh8:qc pr (X pr) 207 [.agg [.int .i64 a0.m0,.int .i64 a0.m1],.agg [.int .i64 a1.m2,.int .i64 a1.m3]]=some (.agg [.int .i64 v7.num,.int .i64 v7.den],false):=qly h8
 obtain ⟨v9,h10,h⟩:=qa h
 have wh10:qc pr (X pr) 207 [.agg [.int .i64 a0.m2,.int .i64 a0.m3],.agg [.int .i64 a1.m6,.int .i64 a1.m7]]=some (.agg [.int .i64 v9.num,.int .i64 v9.den],false):=qly h10
 obtain ⟨v11,h12,h⟩:=qa h
 have wh12:qc pr (X pr) 234 [.agg [.int .i64 v7.num,.int .i64 v7.den],.agg [.int .i64 v9.num,.int .i64 v9.den]]=some (.agg [.int .i64 v11.num,.int .i64 v11.den],false):=q2j h12
 obtain ⟨v13,h14,h⟩:=qa h
 have wh14:qc pr (X pr) 207 [.agg [.int .i64 a0.m4,.int .i64 a0.m5],.agg [.int .i64 a1.m0,.int .i64 a1.m1]]=some (.agg [.int .i64 v13.num,.int .i64 v13.den],false):=qly h14
 obtain ⟨v15,h16,h⟩:=qa h
 have wh16:qc pr (X pr) 207 [.agg [.int .i64 a0.m6,.int .i64 a0.m7],.agg [.int .i64 a1.m4,.int .i64 a1.m5]]=some (.agg [.int .i64 v15.num,.int .i64 v15.den],false):=qly h16
 obtain ⟨v17,h18,h⟩:=qa h
 have wh18:qc pr (X pr) 234 [.agg [.int .i64 v13.num,.int .i64 v13.den],.agg [.int .i64 v15.num,.int .i64 v15.den]]=some (.agg [.int .i64 v17.num,.int .i64 v17.den],false):=q2j h18
 obtain ⟨v19,h20,h⟩:=qa h
 have wh20:qc pr (X pr) 207 [.agg [.int .i64 a0.m4,.int .i64 a0.m5],.agg [.int .i64 a1.m2,.int .i64 a1.m3]]=some (.agg [.int .i64 v19.num,.int .i64 v19.den],false):=qly h20
 obtain ⟨v21,h22,h⟩:=qa h
 have wh22:qc pr (X pr) 207 [.agg [.int .i64 a0.m6,.int .i64 a0.m7],.agg [.int .i64 a1.m6,.int .i64 a1.m7]]=some (.agg [.int .i64 v21.num,.int .i64 v21.den],false):=qly h22
 obtain ⟨v23,h24,h⟩:=qa h
 have wh24:qc pr (X pr) 234 [.agg [.int .i64 v19.num,.int .i64 v19.den],.agg [.int .i64 v21.num,.int .i64 v21.den]]=some (.agg [.int .i64 v23.num,.int .i64 v23.den],false):=q2j h24
 have hr:⟨v5.num,v5.den,v11.num,v11.den,v17.num,v17.den,v23.num,v23.den⟩=r:=Option.some.inj h
 subst hr
 refine qy rfl ?_ (fun _=>by first | rfl | simp only [go_sem,seval]) (by first | rfl | simp only [go_sem,seval])
 rw [qh (show pr.fns 206=some c206 from rfl) (by simp)]
 simp only [go_sem,seval,c206,wh2,wh4,wh6,wh8,wh10,wh12,wh14,wh16,wh18,wh20,wh22,wh24]
 exact ⟨_,rfl⟩
noncomputable def f218 (a0:GRat):Option yb:=
 some (⟨a0.num,a0.den,1,0,0,0,a0.num,a0.den⟩)
theorem jtz {a0:GRat} {r} (h:f218 a0=some r):qc pr (X pr) 218 [.agg [.int .i64 a0.num,.int .i64 a0.den]]=some (.agg [.int .i64 r.m0,.int .i64 r.m1,.int .i64 r.m2,.int .i64 r.m3,.int .i64 r.m4,.int .i64 r.m5,.int .i64 r.m6,.int .i64 r.m7],false):=by
 unfold f218 at h
 have hr:⟨a0.num,a0.den,1,0,0,0,a0.num,a0.den⟩=r:=Option.some.inj h
 subst hr
 refine qy rfl ?_ (fun _=>by first | rfl | simp only [go_sem,seval]) (by first | rfl | simp only [go_sem,seval])
 rw [qh (show pr.fns 218=some c218 from rfl) (by simp)]
 simp only [go_sem,seval,c218]
 exact ⟨_,rfl⟩
noncomputable def f219 (a0:GRat):Option yb:=
 some (⟨1,0,a0.num,a0.den,0,0,1,0⟩)
theorem jtt {a0:GRat} {r} (h:f219 a0=some r):qc pr (X pr) 219 [.agg [.int .i64 a0.num,.int .i64 a0.den]]=some (.agg [.int .i64 r.m0,.int .i64 r.m1,.int .i64 r.m2,.int .i64 r.m3,.int .i64 r.m4,.int .i64 r.m5,.int .i64 r.m6,.int .i64 r.m7],false):=by
 unfold f219 at h
 have hr:⟨1,0,a0.num,a0.den,0,0,1,0⟩=r:=Option.some.inj h
 subst hr
 refine qy rfl ?_ (fun _=>by first | rfl | simp only [go_sem,seval]) (by first | rfl | simp only [go_sem,seval])
 rw [qh (show pr.fns 219=some c219 from rfl) (by simp)]
 simp only [go_sem,seval,c219]
 exact ⟨_,rfl⟩
noncomputable def f220 (a0:GRat):Option yb:=
 some (⟨1,0,0,0,a0.num,a0.den,1,0⟩)
theorem jso {a0:GRat} {r} (h:f220 a0=some r):qc pr (X pr) 220 [.agg [.int .i64 a0.num,.int .i64 a0.den]]=some (.agg [.int .i64 r.m0,.int .i64 r.m1,.int .i64 r.m2,.int .i64 r.m3,.int .i64 r.m4,.int .i64 r.m5,.int .i64 r.m6,.int .i64 r.m7],false):=by
 unfold f220 at h
 have hr:⟨1,0,0,0,a0.num,a0.den,1,0⟩=r:=Option.some.inj h
 subst hr
 refine qy rfl ?_ (fun _=>by first | rfl | simp only [go_sem,seval]) (by first | rfl | simp only [go_sem,seval])
 rw [qh (show pr.fns 220=some c220 from rfl) (by simp)]
 simp only [go_sem,seval,c220]
 exact ⟨_,rfl⟩
noncomputable def f221 (a0:GRat):Option yb:=
 some (⟨a0.num,a0.den,0,0,1,0,a0.num,a0.den⟩)
theorem jrm {a0:GRat} {r} (h:f221 a0=some r):qc pr (X pr) 221 [.agg [.int .i64 a0.num,.int .i64 a0.den]]=some (.agg [.int .i64 r.m0,.int .i64 r.m1,.int .i64 r.m2,.int .i64 r.m3,.int .i64 r.m4,.int .i64 r.m5,.int .i64 r.m6,.int .i64 r.m7],false):=by
 unfold f221 at h
 have hr:⟨a0.num,a0.den,0,0,1,0,a0.num,a0.den⟩=r:=Option.some.inj h
 subst hr
 refine qy rfl ?_ (fun _=>by first | rfl | simp only [go_sem,seval]) (by first | rfl | simp only [go_sem,seval])
 rw [qh (show pr.fns 221=some c221 from rfl) (by simp)]
 simp only [go_sem,seval,c221]
 exact ⟨_,rfl⟩
noncomputable def qr6 (a0:Int) (a1:Int) (s0:Int × Int):Option ((Int × Int) ⊕ ((Int × Int))):=
 cond (decide (s0.2=0))
  (some (.inr (s0.1,s0.2)))
  (qe (qeq s0.1 s0.2) fun v8=>
  some (.inl (s0.2,v8)))
def qpi (a0:Int) (a1:Int) (s0:Int × Int):ASt:=⟨[(0,.int .i64 a0,false),(1,.int .i64 a1,false),(4,.ptr 0 0,false),(5,.int .i64 s0.1,false),(6,.int .i64 s0.2,false)],[.cells [(.int .i64 0,false),(.int .i64 0,false)]]⟩
def qtn (a0:Int) (a1:Int) (d:(Int × Int)):ji × ASt:=(.exit 0,⟨[(0,.int .i64 a0,false),(1,.int .i64 a1,false),(4,.ptr 0 0,false),(5,.int .i64 d.1,false),(6,.int .i64 d.2,false),(10,.bool false,false)],[.cells [(.int .i64 0,false),(.int .i64 0,false)]]⟩)
theorem jf0 (a0:Int) (a1:Int) (s0:Int × Int) (r) (h:qr6 a0 a1 s0=some r):zj pr qk4 (qpi a0 a1) (qtn a0 a1) s0 r:=by
 unfold qr6 at h
 rcases qb h with ⟨h7,h⟩ | ⟨h7,h⟩
 ·cases h
  exact qj (by simp only [go_sem,seval,qk4,qpi,h7,qtn] <;> rfl)
 ·obtain ⟨v8,h9,h⟩:=qa h
  cases h
  exact qq (st':=⟨[(0,.int .i64 a0,false),(1,.int .i64 a1,false),(4,.ptr 0 0,false),(5,.int .i64 s0.2,false),(6,.int .i64 v8,false)],[.cells [(.int .i64 0,false),(.int .i64 0,false)]]⟩) (by simp only [go_sem,seval,qk4,qpi,h7,qan h9] <;> rfl) (jb (Nat.le_refl _))
theorem jcs (a0:Int) (a1:Int) {s0:Int × Int} {d} (h:itO (qr6 a0 a1) s0=some d):X pr (.loop qk4) (qpi a0 a1 s0)=some (qtn a0 a1 d):=z7 (jf0 a0 a1) (fun d hh=>by cases hh) h
noncomputable def f125 (a0:Int) (a1:Int):Option GRat:=
 qe (itO (qr6 a0 a1) (a0,a1)) fun d10=>
 qe (qd6 .i64 a0 d10.1) fun v12=>
 qe (qd6 .i64 a1 d10.1) fun v14=>
 some (⟨v12,v14⟩)
theorem jrj {a0:Int} {a1:Int} {r} (h:f125 a0 a1=some r):qc pr (X pr) 125 [.int .i64 a0,.int .i64 a1]=some (.agg [.int .i64 r.num,.int .i64 r.den],false):=by
 unfold f125 at h
 obtain ⟨d10,h11,h⟩:=qa h
 have wh11:X pr (.loop qk4) ⟨[(0,.int .i64 a0,false),(1,.int .i64 a1,false),(4,.ptr 0 0,false),(5,.int .i64 a0,false),(6,.int .i64 a1,false)],[.cells [(.int .i64 0,false),(.int .i64 0,false)]]⟩=some (.exit 0,⟨[(0,.int .i64 a0,false),(1,.int .i64 a1,false),(4,.ptr 0 0,false),(5,.int .i64 d10.1,false),(6,.int .i64 d10.2,false),(10,.bool false,false)],[.cells [(.int .i64 0,false),(.int .i64 0,false)]]⟩):=jcs a0 a1 h11
 obtain ⟨v12,h13,h⟩:=qa h
 obtain ⟨v14,h15,h⟩:=qa h
 have hr:⟨v12,v14⟩=r:=Option.some.inj h
 subst hr
 refine qy rfl ?_ (fun _=>by first | rfl | simp only [go_sem,seval]) (by first | rfl | simp only [go_sem,seval])
 rw [qh (show pr.fns 125=some c125 from rfl) (by simp)]
 simp only [go_sem,seval,c125,wh11,qat h13,qat h15]
 exact ⟨_,rfl⟩
noncomputable def qr4 (a0:Int) (a1:Int) (s0:Int × Int):Option ((Int × Int) ⊕ ((Int × Int))):=
 cond (decide (s0.2=0))
  (some (.inr (s0.1,s0.2)))
  (qe (qeq s0.1 s0.2) fun v8=>
  some (.inl (s0.2,v8)))
def qpd (a0:Int) (a1:Int) (s0:Int × Int):ASt:=⟨[(0,.int .i64 a0,false),(1,.int .i64 a1,false),(4,.ptr 0 0,false),(5,.int .i64 s0.1,false),(6,.int .i64 s0.2,false)],[.cells [(.int .i64 0,false),(.int .i64 0,false)]]⟩
def qsu (a0:Int) (a1:Int) (d:(Int × Int)):ji × ASt:=(.exit 0,⟨[(0,.int .i64 a0,false),(1,.int .i64 a1,false),(4,.ptr 0 0,false),(5,.int .i64 d.1,false),(6,.int .i64 d.2,false),(10,.bool false,false)],[.cells [(.int .i64 0,false),(.int .i64 0,false)]]⟩)
theorem jfr (a0:Int) (a1:Int) (s0:Int × Int) (r) (h:qr4 a0 a1 s0=some r):zj pr qj3 (qpd a0 a1) (qsu a0 a1) s0 r:=by
 unfold qr4 at h
 rcases qb h with ⟨h7,h⟩ | ⟨h7,h⟩
 ·cases h
  exact qj (by simp only [go_sem,seval,qj3,qpd,h7,qsu] <;> rfl)
 ·obtain ⟨v8,h9,h⟩:=qa h
  cases h
  exact qq (st':=⟨[(0,.int .i64 a0,false),(1,.int .i64 a1,false),(4,.ptr 0 0,false),(5,.int .i64 s0.2,false),(6,.int .i64 v8,false)],[.cells [(.int .i64 0,false),(.int .i64 0,false)]]⟩) (by simp only [go_sem,seval,qj3,qpd,h7,qan h9] <;> rfl) (jb (Nat.le_refl _))
theorem jdk (a0:Int) (a1:Int) {s0:Int × Int} {d} (h:itO (qr4 a0 a1) s0=some d):X pr (.loop qj3) (qpd a0 a1 s0)=some (qsu a0 a1 d):=z7 (jfr a0 a1) (fun d hh=>by cases hh) h
noncomputable def f174 (a0:Int) (a1:Int):Option GRat:=
 qe (itO (qr4 a0 a1) (a0,a1)) fun d10=>
 qe (qd6 .i64 a0 d10.1) fun v12=>
 qe (qd6 .i64 a1 d10.1) fun v14=>
 some (⟨v12,v14⟩)
theorem jsm {a0:Int} {a1:Int} {r} (h:f174 a0 a1=some r):qc pr (X pr) 174 [.int .i64 a0,.int .i64 a1]=some (.agg [.int .i64 r.num,.int .i64 r.den],false):=by
 unfold f174 at h
 obtain ⟨d10,h11,h⟩:=qa h
 have wh11:X pr (.loop qj3) ⟨[(0,.int .i64 a0,false),(1,.int .i64 a1,false),(4,.ptr 0 0,false),(5,.int .i64 a0,false),(6,.int .i64 a1,false)],[.cells [(.int .i64 0,false),(.int .i64 0,false)]]⟩=some (.exit 0,⟨[(0,.int .i64 a0,false),(1,.int .i64 a1,false),(4,.ptr 0 0,false),(5,.int .i64 d10.1,false),(6,.int .i64 d10.2,false),(10,.bool false,false)],[.cells [(.int .i64 0,false),(.int .i64 0,false)]]⟩):=jdk a0 a1 h11
 obtain ⟨v12,h13,h⟩:=qa h
 obtain ⟨v14,h15,h⟩:=qa h
 have hr:⟨v12,v14⟩=r:=Option.some.inj h
 subst hr
 refine qy rfl ?_ (fun _=>by first | rfl | simp only [go_sem,seval]) (by first | rfl | simp only [go_sem,seval])
 rw [qh (show pr.fns 174=some c174 from rfl) (by simp)]
 simp only [go_sem,seval,c174,wh11,qat h13,qat h15]
 exact ⟨_,rfl⟩
noncomputable def qvo (a0:Int) (a1:Int) (s0:Int × Int):Option ((Int × Int) ⊕ ((Int × Int))):=
 cond (decide (s0.2=0))
  (some (.inr (s0.1,s0.2)))
  (qe (qeq s0.1 s0.2) fun v9=>
  some (.inl (s0.2,v9)))
def qrj (a0:Int) (a1:Int) (s0:Int × Int):ASt:=⟨[(0,.int .i64 (qf .i64 (0 - a0)),false),(1,.int .i64 (qf .i64 (0 - a1)),false),(4,.ptr 0 0,false),(5,.int .i64 s0.1,false),(6,.int .i64 s0.2,false)],[.cells [(.int .i64 0,false),(.int .i64 0,false)]]⟩
def qxj (a0:Int) (a1:Int) (d:(Int × Int)):ji × ASt:=(.exit 0,⟨[(0,.int .i64 (qf .i64 (0 - a0)),false),(1,.int .i64 (qf .i64 (0 - a1)),false),(4,.ptr 0 0,false),(5,.int .i64 d.1,false),(6,.int .i64 d.2,false),(19,.bool false,false)],[.cells [(.int .i64 0,false),(.int .i64 0,false)]]⟩)
theorem jjq (a0:Int) (a1:Int) (s0:Int × Int) (r) (h:qvo a0 a1 s0=some r):zj pr qep (qrj a0 a1) (qxj a0 a1) s0 r:=by
 unfold qvo at h
 rcases qb h with ⟨h8,h⟩ | ⟨h8,h⟩
 ·cases h
  exact qj (by simp only [go_sem,seval,qep,qrj,h8,qxj] <;> rfl)
 ·obtain ⟨v9,h10,h⟩:=qa h
  cases h
  exact qq (st':=⟨[(0,.int .i64 (qf .i64 (0 - a0)),false),(1,.int .i64 (qf .i64 (0 - a1)),false),(4,.ptr 0 0,false),(5,.int .i64 s0.2,false),(6,.int .i64 v9,false)],[.cells [(.int .i64 0,false),(.int .i64 0,false)]]⟩) (by simp only [go_sem,seval,qep,qrj,h8,qan h10] <;> rfl) (jb (Nat.le_refl _))
theorem jiq (a0:Int) (a1:Int) {s0:Int × Int} {d} (h:itO (qvo a0 a1) s0=some d):X pr (.loop qep) (qrj a0 a1 s0)=some (qxj a0 a1 d):=z7 (jjq a0 a1) (fun d hh=>by cases hh) h
noncomputable def qrq (a0:Int) (a1:Int) (s0:Int × Int):Option ((Int × Int) ⊕ ((Int × Int))):=
 cond (decide (s0.2=0))
  (some (.inr (s0.1,s0.2)))
  (qe (qeq s0.1 s0.2) fun v24=>
  some (.inl (s0.2,v24)))
def qoz (a0:Int) (a1:Int) (s0:Int × Int):ASt:=⟨[(0,.int .i64 a0,false),(1,.int .i64 a1,false),(4,.ptr 0 0,false),(5,.int .i64 s0.1,false),(6,.int .i64 s0.2,false)],[.cells [(.int .i64 0,false),(.int .i64 0,false)]]⟩
def qs9 (a0:Int) (a1:Int) (d:(Int × Int)):ji × ASt:=(.exit 0,⟨[(0,.int .i64 a0,false),(1,.int .i64 a1,false),(4,.ptr 0 0,false),(5,.int .i64 d.1,false),(6,.int .i64 d.2,false),(19,.bool false,false)],[.cells [(.int .i64 0,false),(.int .i64 0,false)]]⟩)
theorem jco (a0:Int) (a1:Int) (s0:Int × Int) (r) (h:qrq a0 a1 s0=some r):zj pr qep (qoz a0 a1) (qs9 a0 a1) s0 r:=by
 unfold qrq at h
 rcases qb h with ⟨h23,h⟩ | ⟨h23,h⟩
 ·cases h
  exact qj (by simp only [go_sem,seval,qep,qoz,h23,qs9] <;> rfl)
 ·obtain ⟨v24,h25,h⟩:=qa h
  cases h
  exact qq (st':=⟨[(0,.int .i64 a0,false),(1,.int .i64 a1,false),(4,.ptr 0 0,false),(5,.int .i64 s0.2,false),(6,.int .i64 v24,false)],[.cells [(.int .i64 0,false),(.int .i64 0,false)]]⟩) (by simp only [go_sem,seval,qep,qoz,h23,qan h25] <;> rfl) (jb (Nat.le_refl _))
theorem jdm (a0:Int) (a1:Int) {s0:Int × Int} {d} (h:itO (qrq a0 a1) s0=some d):X pr (.loop qep) (qoz a0 a1 s0)=some (qs9 a0 a1 d):=z7 (jco a0 a1) (fun d hh=>by cases hh) h
noncomputable def f66 (a0:Int) (a1:Int):Option GRat:=
 cond (decide (a1 < 0))
  (qe (itO (qvo a0 a1) (max (qf .i64 (0 - a0)) (qf .i64 (0 - (qf .i64 (0 - a0)))),qf .i64 (0 - a1))) fun d11=>
  qe (qd6 .i64 (qf .i64 (0 - a0)) d11.1) fun v13=>
  qe (qd6 .i64 (qf .i64 (0 - a1)) d11.1) fun v15=>
  some (⟨v13,v15⟩))
  (qe (itO (qrq a0 a1) (max a0 (qf .i64 (0 - a0)),a1)) fun d26=>
  qe (qd6 .i64 a0 d26.1) fun v28=>
  qe (qd6 .i64 a1 d26.1) fun v30=>
  some (⟨v28,v30⟩))
theorem W66 {a0:Int} {a1:Int} {r} (h:f66 a0 a1=some r):qc pr (X pr) 66 [.int .i64 a0,.int .i64 a1]=some (.agg [.int .i64 r.num,.int .i64 r.den],false):=by
 unfold f66 at h
 rcases qb h with ⟨h1,h⟩ | ⟨h1,h⟩
 ·obtain ⟨d11,h12,h⟩:=qa h
  have wh12:X pr (.loop qep) ⟨[(0,.int .i64 (qf .i64 (0 - a0)),false),(1,.int .i64 (qf .i64 (0 - a1)),false),(4,.ptr 0 0,false),(5,.int .i64 (max (qf .i64 (0 - a0)) (qf .i64 (0 - (qf .i64 (0 - a0))))),false),(6,.int .i64 (qf .i64 (0 - a1)),false)],[.cells [(.int .i64 0,false),(.int .i64 0,false)]]⟩=some (.exit 0,⟨[(0,.int .i64 (qf .i64 (0 - a0)),false),(1,.int .i64 (qf .i64 (0 - a1)),false),(4,.ptr 0 0,false),(5,.int .i64 d11.1,false),(6,.int .i64 d11.2,false),(19,.bool false,false)],[.cells [(.int .i64 0,false),(.int .i64 0,false)]]⟩):=jiq a0 a1 h12
  obtain ⟨v13,h14,h⟩:=qa h
  obtain ⟨v15,h16,h⟩:=qa h
  have hr:⟨v13,v15⟩=r:=Option.some.inj h
  subst hr
  refine qy rfl ?_ (fun _=>by first | rfl | simp only [go_sem,seval]) (by first | rfl | simp only [go_sem,seval])
  rw [qh (show pr.fns 66=some c66 from rfl) (by simp)]
  simp only [go_sem,seval,c66,h1,wh12,qat h14,qat h16]
  exact ⟨_,rfl⟩
 ·obtain ⟨d26,h27,h⟩:=qa h
  have wh27:X pr (.loop qep) ⟨[(0,.int .i64 a0,false),(1,.int .i64 a1,false),(4,.ptr 0 0,false),(5,.int .i64 (max a0 (qf .i64 (0 - a0))),false),(6,.int .i64 a1,false)],[.cells [(.int .i64 0,false),(.int .i64 0,false)]]⟩=some (.exit 0,⟨[(0,.int .i64 a0,false),(1,.int .i64 a1,false),(4,.ptr 0 0,false),(5,.int .i64 d26.1,false),(6,.int .i64 d26.2,false),(19,.bool false,false)],[.cells [(.int .i64 0,false),(.int .i64 0,false)]]⟩):=jdm a0 a1 h27
  obtain ⟨v28,h29,h⟩:=qa h
  obtain ⟨v30,h31,h⟩:=qa h
  have hr:⟨v28,v30⟩=r:=Option.some.inj h
  subst hr
  refine qy rfl ?_ (fun _=>by first | rfl | simp only [go_sem,seval]) (by first | rfl | simp only [go_sem,seval])
  rw [qh (show pr.fns 66=some c66 from rfl) (by simp)]
  simp only [go_sem,seval,c66,h1,wh27,qat h29,qat h31]
  exact ⟨_,rfl⟩
def pcL:ACode→ACode
 | .seq a _=>a
 | x=>x
def pcR:ACode→ACode
 | .seq _ b=>b
 | x=>x
def pcB:ACode→ACode
 | .block _ b=>b
 | x=>x
def rfA:ACode→ACode
 | .rangeFunc _ _ a _=>a
 | x=>x
def rfB:ACode→ACode
 | .rangeFunc _ _ _ b=>b
 | x=>x
theorem qpy {n:Nat} {v:AVal} {h:qk} (hn:h.length=n):zq n v h=h:=by
 unfold zq
 rw [Nat.ble_eq_true_of_le (by omega)]; rfl
theorem qeo {n:Nat} {v:AVal} {h t:qk} (hn:h.length=n) (hv:Abs.below n v=true) (hb:jt n h=true):zq n v (h++t)=h:=by
 have ht:(h++t).take n=h:=by rw [← hn,List.take_left']; rfl
 unfold zq
 rw [ht,hv,hb]
 cases hc:Nat.ble (h++t).length n with
 | false=>rfl
 | true=>
  have:=Nat.le_of_ble_eq_true hc
  rw [List.length_append] at this
  have h0:t=[]:=List.length_eq_zero_iff.1 (by omega)
  subst h0
  simp
def mcs (m:yb):List (AVal × Bool):=[(.int .i64 m.m0,false),(.int .i64 m.m1,false),(.int .i64 m.m2,false),(.int .i64 m.m3,false),(.int .i64 m.m4,false),(.int .i64 m.m5,false),(.int .i64 m.m6,false),(.int .i64 m.m7,false)]
def gcs (d:GRat):List (AVal × Bool):=[(.int .i64 d.num,false),(.int .i64 d.den,false)]
def qi9:ACode:=pcB (pcR (pcL (pcR (pcR c173.body))))
def qg6:ACode:=rfA qi9
def qf1:ACode:=rfB qi9
theorem q8a:qi9=.rangeFunc (.tmp 18) [19,20] qg6 qf1:=rfl
section
variable (l:Option (List GEl)) (w:Int)
def qc5:Env:=[(4,.ptr 0 0,false),(5,.ptr 1 0,false),(6,.ptr 2 0,false),(7,.ptr 3 0,false),(18,.fn (.func 233) [] [.vptr (sl 3 vel l),.vptr (.int .i64 w)],false)]
def z2:List (AVal × Bool):=[(.int .i64 0,false),(.int .i64 0,false)]
def z8:List (AVal × Bool):=[(.int .i64 0,false),(.int .i64 0,false),(.int .i64 0,false),(.int .i64 0,false),(.int .i64 0,false),(.int .i64 0,false),(.int .i64 0,false),(.int .i64 0,false)]
def qn3 (m:yb) (d:GRat):qk:=[.cells z8,.cells z2,.cells (mcs m),.cells (gcs d)]
def qag (m:yb) (d:GRat) (pd:Option ji) (t:qk):qk:=.cells z8::.cells z2::.cells (mcs m)::.cells (gcs d)::.loop ⟨qc5 l w,[19,20],qg6,qf1,pd⟩::t
def ke (s:List UInt8) (b:Bool) (n:Nat):AVal:=.agg [.str s,.bool b,.fn (.func n) [] []]
def ga (v:GRat):AVal:=.agg [.int .i64 v.num,.int .i64 v.den]
def tl (s:List UInt8) (b:Bool) (n:Nat) (v:GRat):qk:=[.cells [(.str s,false),(.bool b,false),(.fn (.func n) [] [],false)],.cells (gcs v)]
def t2 (x:GEl):qk:=[.map zd,.cells [(.str x.kind,false),(.int .i64 x.a,false),(.int .i64 x.b,false)]]
def qve:Env:=[(4,.ptr 0 0,false),(5,.ptr 1 0,false),(6,.ptr 2 0,false),(7,.ptr 3 0,false),(8,.ptr 7 0,false),(9,.ptr 8 0,false)]
variable {l w}
theorem q51 {s b n} {v m d} {x:GEl}:X pr qg6 ⟨(20,ga v,false)::(19,ke s b n,false)::qc5 l w,qag l w m d none (t2 x)⟩=some (.normal,⟨qve,qag l w m d none (t2 x++tl s b n v)⟩):=by
 simp only [go_sem,seval,qg6,rfA,qi9,pcB,pcL,pcR,c173,qc5,ke,ga,qag,t2] <;> rfl
theorem q3u {s b n} {v c m m1:_} {d d1:GRat} {x:GEl} {pd} (h1:qc pr (X pr) n [ga v]=some (.agg [.int .i64 c.m0,.int .i64 c.m1,.int .i64 c.m2,.int .i64 c.m3,.int .i64 c.m4,.int .i64 c.m5,.int .i64 c.m6,.int .i64 c.m7],false))
  (h2:f206 m c=some m1) (h3:cond b (f207 d v) (some d)=some d1):∃ e,X pr qf1 ⟨qve,qag l w m d pd (t2 x++tl s b n v)⟩=some (.normal,⟨e,qag l w m1 d1 pd (t2 x++tl s b n v)⟩):=by
 have g2:=jtd h2
 simp only [ga] at h1
 cases b with
 | true=>
  have g3:=qly (show f207 d v=some d1 from h3)
  simp only [go_sem,seval,qf1,rfB,qi9,pcB,pcL,pcR,c173,qve,qag,t2,tl,mcs,gcs,h1,g2,g3]
  exact ⟨_,rfl⟩
 | false=>
  obtain rfl:d=d1:=Option.some.inj h3
  simp only [go_sem,seval,qf1,rfB,qi9,pcB,pcL,pcR,c173,qve,qag,t2,tl,mcs,gcs,h1,g2]
  exact ⟨_,rfl⟩
theorem q1z:y9 7 (qc5 l w)=true:=by
 have hb:Abs.below 7 (sl 3 vel l)=true:=by simp only [go_sem,seval]
 have h1:jk 7 [.vptr (sl 3 vel l),.vptr (.int .i64 w)]=true:=by
  show (Abs.below 7 (sl 3 vel l) && true)=true
  rw [hb]; rfl
 have h2:Abs.below 7 (.fn (.func 233) [] [.vptr (sl 3 vel l),.vptr (.int .i64 w)])=true:=by
  show (true && jk 7 [.vptr (sl 3 vel l),.vptr (.int .i64 w)])=true
  rw [h1]; rfl
 simp only [qc5,y9,List.all_cons,List.all_nil,h2]
 rfl
theorem qzu:y9 6 (qc5 l w)=true:=by
 have hb:Abs.below 6 (sl 3 vel l)=true:=by simp only [go_sem,seval]
 have h1:jk 6 [.vptr (sl 3 vel l),.vptr (.int .i64 w)]=true:=by
  show (Abs.below 6 (sl 3 vel l) && true)=true
  rw [hb]; rfl
 have h2:Abs.below 6 (.fn (.func 233) [] [.vptr (sl 3 vel l),.vptr (.int .i64 w)])=true:=by
  show (true && jk 6 [.vptr (sl 3 vel l),.vptr (.int .i64 w)])=true
  rw [h1]; rfl
 simp only [qc5,y9,List.all_cons,List.all_nil,h2]
 rfl
theorem q3f {m d pd} {x:GEl}:jt 7 (qag l w m d pd (t2 x))=true:=by
 simp only [qag,t2,jt,List.all_cons,List.all_nil,ko,q1z,mcs,gcs,z8,z2,zd]
 rfl
theorem jr7 {s b n} {v c m m1:_} {d d1:GRat} {x:GEl} (h1:qc pr (X pr) n [ga v]=some (.agg [.int .i64 c.m0,.int .i64 c.m1,.int .i64 c.m2,.int .i64 c.m3,.int .i64 c.m4,.int .i64 c.m5,.int .i64 c.m6,.int .i64 c.m7],false))
  (h2:f206 m c=some m1) (h3:cond b (f207 d v) (some d)=some d1):k9 (X pr) 4 [ke s b n,ga v] (qag l w m d none (t2 x))=some (.bool true,qag l w m1 d1 none (t2 x)):=by
 have g:∀ m d pd t,zu (qag l w m d pd t) 4=some (.loop ⟨qc5 l w,[19,20],qg6,qf1,pd⟩):=fun _ _ _ _=>rfl
 have se:qcr (noOwn (qc5 l w)) [19,20] [ke s b n,ga v]=some ((20,ga v,false)::(19,ke s b n,false)::qc5 l w):=rfl
 have st:∀ m d pd pd' t,(qag l w m d pd t).set 4 (.loop ⟨qc5 l w,[19,20],qg6,qf1,pd'⟩)=qag l w m d pd' t:=fun _ _ _ _ _=>rfl
 have hl:∀ m d pd,(qag l w m d pd (t2 x)).length=7:=fun _ _ _=>rfl
 have ha:∀ m d pd v t,Abs.below 7 v=true→zq 7 v (qag l w m d pd (t2 x++t))=qag l w m d pd (t2 x):=fun m d pd v t hv=>qeo (h:=qag l w m d pd (t2 x)) rfl hv q3f
 obtain ⟨e,hb⟩:=q3u (l:=l) (w:=w) (s:=s) (x:=x) (pd:=some .normal) h1 h2 h3
 unfold k9
 simp only [g,se,q51,Option.isNone_none,cond_true,st,hl,hb]
 rw [ha _ _ _ _ _ rfl]
end
noncomputable def kOf (s:List UInt8) (v:GRat):Option (yb × Bool):=
 cond (decide (s=([98,108,111,99,107]:List UInt8))) (qe (f218 v) fun c=>some (c,true))
  (cond (decide (s=([115,101,114,105,101,115]:List UInt8))) (qe (f219 v) fun c=>some (c,false))
  (cond (decide (s=([115,104,117,110,116]:List UInt8))) (qe (f220 v) fun c=>some (c,false))
   (cond (decide (s=([116,114,97,112]:List UInt8))) (qe (f221 v) fun c=>some (c,true)) none)))
theorem jbg {s:List UInt8} {v:GRat} {c b} (h:kOf s v=some (c,b)):∃ t k n,j4 .str (.str s) zd 0=some (some (t,ke k b n))∧qc pr (X pr) n [ga v]=some (.agg [.int .i64 c.m0,.int .i64 c.m1,.int .i64 c.m2,.int .i64 c.m3,.int .i64 c.m4,.int .i64 c.m5,.int .i64 c.m6,.int .i64 c.m7],false):=by
 unfold kOf at h
 rcases qb h with ⟨h1,k⟩ | ⟨h1,k⟩
 ·obtain ⟨c',h2,k⟩:=qa k
  cases k
  exact ⟨_,_,_,qq4 h1,jtz h2⟩
 rcases qb k with ⟨h2,k⟩ | ⟨h2,k⟩
 ·obtain ⟨c',h3,k⟩:=qa k
  cases k
  exact ⟨_,_,_,q2c h1 h2,jtt h3⟩
 rcases qb k with ⟨h3,k⟩ | ⟨h3,k⟩
 ·obtain ⟨c',h4,k⟩:=qa k
  cases k
  exact ⟨_,_,_,q2w h1 h2 h3,jso h4⟩
 rcases qb k with ⟨h4,k⟩ | ⟨h4,k⟩
 ·obtain ⟨c',h5,k⟩:=qa k
  cases k
  exact ⟨_,_,_,qrg h1 h2 h3 h4,jrm h5⟩
 ·cases k
noncomputable def qvj (w:Int) (q:yb × GRat) (x:GEl):Option (yb × GRat):=
 qe (kOf x.kind ⟨x.a,qf .i64 (w * x.b)⟩) fun c=>qe (f206 q.1 c.1) fun m=>qe (cond c.2 (f207 q.2 ⟨x.a,qf .i64 (w * x.b)⟩) (some q.2)) fun d=>some (m,d)
noncomputable def qjj (w:Int):List GEl→yb × GRat→Option (yb × GRat)
 | [],q=>some q
 | x::l,q=>qe (qvj w q x) fun q'=>qjj w l q'
noncomputable def qw0 (w:Int) (l:Option (List GEl)) (d:Int × yb × GRat):Option ((Int × yb × GRat) ⊕ (Int × yb × GRat)):=
 cond (decide (d.1 < ((l.getD []).length:Int))) (qe (zw (l.getD []) d.1) fun x=>qe (qvj w d.2 x) fun q=>some (.inl (qf .i64 (d.1 + 1),q))) (some (.inr d))
def qsd (w:Int) (l:Option (List GEl)) (d:Int × yb × GRat):ASt:=⟨[(0,.fn (.yield 4) [] [],false),(2,.vptr (.int .i64 w),false),(4,.map 5,false),(8,sl 3 vel l,false),(9,.int .i64 ((l.getD []).length:Int),false),(10,.int .i64 d.1,false)],qag l w d.2.1 d.2.2 none [.map zd]⟩
def qvy (w:Int) (l:Option (List GEl)) (d:Int × yb × GRat):ji × ASt:=(.exit 0,⟨[(0,.fn (.yield 4) [] [],false),(2,.vptr (.int .i64 w),false),(4,.map 5,false),(8,sl 3 vel l,false),(9,.int .i64 ((l.getD []).length:Int),false),(10,.int .i64 d.1,false),(11,.bool false,false)],qag l w d.2.1 d.2.2 none [.map zd]⟩)
theorem jtx {w:Int} {l:Option (List GEl)} (d:Int × yb × GRat) (r) (h:qw0 w l d=some r):zj pr qn2 (qsd w l) (qvy w l) d r:=by
 obtain ⟨i,m,e⟩:=d
 unfold qw0 at h
 dsimp only at h
 rcases qb h with ⟨h1,k⟩ | ⟨h1,k⟩
 ·obtain ⟨x,h2,k⟩:=qa k
  obtain ⟨q,h3,k⟩:=qa k
  cases k
  unfold qvj at h3
  obtain ⟨⟨c,b⟩,h4,k⟩:=qa h3
  obtain ⟨m1,h5,k⟩:=qa k
  obtain ⟨d1,h6,k⟩:=qa k
  cases k
  obtain ⟨t,kk,n,g1,g2⟩:=jbg h4
  have hy:=jr7 (l:=l) (w:=w) (s:=kk) (x:=x) g2 h5 h6
  simp only [qag,t2,ke,ga] at hy g1
  refine qq (st':=⟨[(0,.fn (.yield 4) [] [],false),(2,.vptr (.int .i64 w),false),(4,.map 5,false),(8,sl 3 vel l,false),(9,.int .i64 ((l.getD []).length:Int),false),(10,.int .i64 (qf .i64 (i + 1)),false)],qag l w m1 d1 none (t2 x)⟩) (by simp only [go_sem,seval,qn2,qsd,qag,t2,h1,q9 h2,g1,hy] <;> rfl) ?_
  exact zz (h:=qag l w m1 d1 none [.map zd]) (h':=[.cells [(.str x.kind,false),(.int .i64 x.a,false),(.int .i64 x.b,false)]]) rfl rfl (by
   have hb:Abs.below 6 (sl 3 vel l)=true:=by simp only [go_sem,seval]
   show ((true && true) && ((true && true) && (true && (Abs.below 6 (sl 3 vel l) && (true && (true && true))))))=true
   rw [hb]; rfl) (by
   show jt 6 _=true
   simp only [qag,jt,List.all_cons,List.all_nil,ko,qzu,mcs,gcs,z8,z2,zd]
   rfl)
 ·cases k
  exact qj (by simp only [go_sem,seval,qn2,qsd,qag,h1,qvy] <;> rfl)
theorem q84 {w:Int} {l:Option (List GEl)} (hl:(l.getD []).length≤5):∀ {k:Nat} {i:Nat} {q r:yb × GRat},(l.getD []).length=i + k→qjj w ((l.getD []).drop i) q=some r→itO (qw0 w l) ((i:Int),q)=some (((l.getD []).length:Int),r)
 | 0,i,q,r,hk,h=>by
  rw [List.drop_eq_nil_of_le (by omega)] at h
  cases h
  have hd:decide ((i:Int) < ((l.getD []).length:Int))=false:=decide_eq_false (by omega)
  rw [qal (d:=((i:Int),q)) (by simp only [qw0,hd,cond_false]),show (i:Int)=((l.getD []).length:Int) by omega]
 | k + 1,i,q,r,hk,h=>by
  have hi:i < (l.getD []).length:=by omega
  have hx:(l.getD [])[i]?=some (l.getD [])[i]:=List.getElem?_eq_getElem hi
  rw [qab hx] at h
  simp only [qjj] at h
  obtain ⟨q1,h1,h2⟩:=qa h
  have hd:decide ((i:Int) < ((l.getD []).length:Int))=true:=decide_eq_true (by omega)
  have hw:qf .i64 ((i:Int) + 1)=((i + 1:Nat):Int):=by
   have:i≤4:=by omega
   match i,this with
   | 0,_=>rfl
   | 1,_=>rfl
   | 2,_=>rfl
   | 3,_=>rfl
   | 4,_=>rfl
  rw [qcp (s':=(((i + 1:Nat):Int),q1)) (by simp only [qw0,hd,cond_true,qfm,hx,qe,h1,hw])]
  exact q84 hl (k:=k) (i:=i + 1) (by omega) h2
section
variable {l:Option (List GEl)} {w:Int} {m m1:yb} {d d1:GRat}
theorem jqa (hl:(l.getD []).length≤5) (h:qjj w (l.getD []) (m,d)=some (m1,d1)):∃ t,jl pr (X pr) 233 [.fn (.yield 4) [] [],.vptr (sl 3 vel l),.vptr (.int .i64 w)] (qag l w m d none [])=some (.tup [],false,qag l w m1 d1 none t):=by
 have h0:=q84 (k:=(l.getD []).length) (i:=0) hl (by omega) (by rw [List.drop_zero]; exact h)
 have h1:X pr (.loop qn2) (qsd w l (0,m,d))=some (qvy w l (((l.getD []).length:Int),m1,d1)):=z7 jtx (fun d=>by intro hh; cases hh) h0
 rw [qh (show pr.fns 233=some c233 from rfl) (by simp)]
 have hm:pr.maps 193=some zd:=rfl
 simp only [qsd,qvy,qag] at h1 ⊢
 simp only [go_sem,seval,c233,h1,hm]
 exact ⟨_,rfl⟩
theorem q8v (hl:(l.getD []).length≤5) (h:qjj w (l.getD []) (m,d)=some (m1,d1)):X pr qi9 ⟨qc5 l w,qn3 m d⟩=some (.normal,⟨qc5 l w,qn3 m1 d1⟩):=by
 obtain ⟨t,h1⟩:=jqa hl h
 have hb:∀ m d,jt 4 (qn3 m d)=true:=by
  intro m d
  simp only [qn3,jt,List.all_cons,List.all_nil,ko,mcs,gcs,z8,z2]
  rfl
 rw [q8a,qop]
 unfold qbh
 have hn:(zg qg6 && zg qf1)=true:=rfl
 have he:ql (qc5 l w) (.tmp 18)=some (.fn (.func 233) [] [.vptr (sl 3 vel l),.vptr (.int .i64 w)]):=rfl
 have hl:∀ m d,(qn3 m d).length=4:=fun _ _=>rfl
 have hap:qn3 m d++[.loop ⟨qc5 l w,[19,20],qg6,qf1,none⟩]=qag l w m d none []:=rfl
 have hg:zu (qag l w m1 d1 none t) 4=some (.loop ⟨qc5 l w,[19,20],qg6,qf1,none⟩):=rfl
 have ht:(qag l w m1 d1 none t).take 4=qn3 m1 d1:=rfl
 simp only [hn,cond_true,he,hl,List.nil_append,List.cons_append,hap,h1,hg,ht,hb]
end
def q4o:ACode:=pcL c173.body
def q4m:ACode:=pcL (pcR c173.body)
def q44:ACode:=pcL (pcL (pcR (pcR c173.body)))
def q5c:ACode:=pcR (pcR (pcR c173.body))
noncomputable def f173 (l:Option (List GEl)) (w:Int):Option (yb × GRat):=cond (decide ((l.getD []).length≤5)) (qjj w (l.getD []) (⟨1,0,0,0,0,0,1,0⟩,⟨1,0⟩)) none
theorem jsu {l:Option (List GEl)} {w:Int}:qc pr (X pr) 205 [sl 3 vel l,.int .i64 w]=some (.fn (.func 233) [] [.vptr (sl 3 vel l),.vptr (.int .i64 w)],false):=by
 have this:∃ hh,jl pr (X pr) 205 [sl 3 vel l,.int .i64 w] []=some (.fn (.func 233) [] [.vptr (sl 3 vel l),.vptr (.int .i64 w)],false,hh):=by
  rw [qh (show pr.fns 205=some c205 from rfl) (by simp)]
  simp only [go_sem,seval,c205]
  exact ⟨_,rfl⟩
 obtain ⟨hh,this⟩:=this
 have hb:Abs.below 0 (sl 3 vel l)=true:=by simp only [go_sem,seval]
 have hp:Abs.below 0 (.fn (.func 233) [] [.vptr (sl 3 vel l),.vptr (.int .i64 w)])=true:=by
  show (true && (Abs.below 0 (sl 3 vel l) && true))=true
  rw [hb]; rfl
 exact ym rfl this (by first | rfl | simp only [go_sem,seval]) (by first | exact hp | simp only [go_sem,seval])
theorem jrs {l:Option (List GEl)} {w:Int} {r} (h:f173 l w=some r):qc pr (X pr) 173 [sl 3 vel l,.int .i64 w]=some (.tup [.agg [.int .i64 r.1.m0,.int .i64 r.1.m1,.int .i64 r.1.m2,.int .i64 r.1.m3,.int .i64 r.1.m4,.int .i64 r.1.m5,.int .i64 r.1.m6,.int .i64 r.1.m7],.agg [.int .i64 r.2.num,.int .i64 r.2.den]],false):=by
 unfold f173 at h
 rcases qb h with ⟨h1,k⟩ | ⟨h1,k⟩
 ·obtain ⟨m,d⟩:=r
  have hx:=q8v (by simpa using h1) k
  have g205:=jsu (l:=l) (w:=w)
  have this:∃ hh,jl pr (X pr) 173 [sl 3 vel l,.int .i64 w] []=some (.tup [.agg [.int .i64 m.m0,.int .i64 m.m1,.int .i64 m.m2,.int .i64 m.m3,.int .i64 m.m4,.int .i64 m.m5,.int .i64 m.m6,.int .i64 m.m7],.agg [.int .i64 d.num,.int .i64 d.den]],false,hh):=by
   rw [qh (show pr.fns 173=some ⟨34,.seq q4o (.seq q4m (.seq (.seq q44 (.block 0 qi9)) q5c)),[.cell 4 true 8,.cell 5 true 2]⟩ from rfl) (by simp)]
   simp only [qc5,qn3,mcs,gcs,z8,z2] at hx
   simp only [go_sem,seval,q4o,q4m,q44,q5c,pcL,pcR,c173,g205,hx]
   exact ⟨_,rfl⟩
  obtain ⟨hh,this⟩:=this
  exact ym rfl this (by first | rfl | simp only [go_sem,seval]) (by first | rfl | simp only [go_sem,seval])
 ·cases k
end Go.Z
