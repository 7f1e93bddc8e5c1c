/-
  Chapter 4: complex integers, ratios, chain matrices: functions that mirror the runs, and the runs (printed by walk.py).
-/
import Derived.Test.YtnjngdcbkkonnaaGreatDoorA1
set_option linter.unusedVariables false
set_option linter.unusedSimpArgs false
set_option maxRecDepth 100000
set_option maxHeartbeats 4000000
namespace Go.Z
open Go Go.Abs
noncomputable def f175 (a0:qz):Option Int:=
 some (qg .i64 ((qg .i64 (a0.num * a0.num)) + (qg .i64 (a0.den * a0.den))))
theorem jdg {a0:qz} {r} (h:f175 a0=some r):qc pr (X pr) 175 [.agg [.int .i64 a0.num,.int .i64 a0.den]]=some (.int .i64 r,false):=by
 unfold f175 at h
 have hr:qg .i64 ((qg .i64 (a0.num * a0.num)) + (qg .i64 (a0.den * a0.den)))=r:=Option.some.inj h
 subst hr
 refine qp rfl ?_ (fun _=>by first | rfl | simp only [go_sem,seval]) (by first | rfl | simp only [go_sem,seval])
 rw [qf (show pr.fns 175=some c175 from rfl) (by simp)]
 simp only [go_sem,seval,c175]
 exact ⟨_,rfl⟩
noncomputable def f207 (a0:qz) (a1:qz):Option qz:=
 some (⟨qg .i64 ((qg .i64 (a0.num * a1.num)) - (qg .i64 (a0.den * a1.den))),qg .i64 ((qg .i64 (a0.num * a1.den)) + (qg .i64 (a0.den * a1.num)))⟩)
theorem qlk {a0:qz} {a1:qz} {r} (h:f207 a0 a1=some r):qc pr (X pr) 207 [.agg [.int .i64 a0.num,.int .i64 a0.den],.agg [.int .i64 a1.num,.int .i64 a1.den]]=some (.agg [.int .i64 r.num,.int .i64 r.den],false):=by
 unfold f207 at h
 have hr:⟨qg .i64 ((qg .i64 (a0.num * a1.num)) - (qg .i64 (a0.den * a1.den))),qg .i64 ((qg .i64 (a0.num * a1.den)) + (qg .i64 (a0.den * a1.num)))⟩=r:=Option.some.inj h
 subst hr
 refine qp rfl ?_ (fun _=>by first | rfl | simp only [go_sem,seval]) (by first | rfl | simp only [go_sem,seval])
 rw [qf (show pr.fns 207=some c207 from rfl) (by simp)]
 simp only [go_sem,seval,c207]
 exact ⟨_,rfl⟩
noncomputable def f234 (a0:qz) (a1:qz):Option qz:=
 some (⟨qg .i64 (a0.num + a1.num),qg .i64 (a0.den + a1.den)⟩)
theorem q0u {a0:qz} {a1:qz} {r} (h:f234 a0 a1=some r):qc pr (X pr) 234 [.agg [.int .i64 a0.num,.int .i64 a0.den],.agg [.int .i64 a1.num,.int .i64 a1.den]]=some (.agg [.int .i64 r.num,.int .i64 r.den],false):=by
 unfold f234 at h
 have hr:⟨qg .i64 (a0.num + a1.num),qg .i64 (a0.den + a1.den)⟩=r:=Option.some.inj h
 subst hr
 refine qp rfl ?_ (fun _=>by first | rfl | simp only [go_sem,seval]) (by first | rfl | simp only [go_sem,seval])
 rw [qf (show pr.fns 234=some c234 from rfl) (by simp)]
 simp only [go_sem,seval,c234]
 exact ⟨_,rfl⟩
noncomputable def f206 (a0:zk) (a1:zk):Option zk:=
 qd (f207 (⟨a0.m0,a0.m1⟩) (⟨a1.m0,a1.m1⟩)) fun v1=>
 qd (f207 (⟨a0.m2,a0.m3⟩) (⟨a1.m4,a1.m5⟩)) fun v3=>
 qd (f234 v1 v3) fun v5=>
 qd (f207 (⟨a0.m0,a0.m1⟩) (⟨a1.m2,a1.m3⟩)) fun v7=>
 qd (f207 (⟨a0.m2,a0.m3⟩) (⟨a1.m6,a1.m7⟩)) fun v9=>
 qd (f234 v7 v9) fun v11=>
 qd (f207 (⟨a0.m4,a0.m5⟩) (⟨a1.m0,a1.m1⟩)) fun v13=>
 qd (f207 (⟨a0.m6,a0.m7⟩) (⟨a1.m4,a1.m5⟩)) fun v15=>
 qd (f234 v13 v15) fun v17=>
 qd (f207 (⟨a0.m4,a0.m5⟩) (⟨a1.m2,a1.m3⟩)) fun v19=>
 qd (f207 (⟨a0.m6,a0.m7⟩) (⟨a1.m6,a1.m7⟩)) fun v21=>
 qd (f234 v19 v21) fun v23=>
 some (⟨v5.num,v5.den,v11.num,v11.den,v17.num,v17.den,v23.num,v23.den⟩)
theorem jq5 {a0:zk} {a1:zk} {r} (h:f206 a0 a1=some r):qc pr (X pr) 206 [.agg [.int .i64 a0.m0,.int .i64 a0.m1,.int .i64 a0.m2,.int .i64 a0.m3,.int .i64 a0.m4,.int .i64 a0.m5,.int .i64 a0.m6,.int .i64 a0.m7],.agg [.int .i64 a1.m0,.int .i64 a1.m1,.int .i64 a1.m2,.int .i64 a1.m3,.int .i64 a1.m4,.int .i64 a1.m5,.int .i64 a1.m6,.int .i64 a1.m7]]=some (.agg [.int .i64 r.m0,.int .i64 r.m1,.int .i64 r.m2,.int .i64 r.m3,.int .i64 r.m4,.int .i64 r.m5,.int .i64 r.m6,.int .i64 r.m7],false):=by
 unfold f206 at h
 obtain ⟨v1,h2,h⟩:=qa h
 have wh2:qc pr (X pr) 207 [.agg [.int .i64 a0.m0,.int .i64 a0.m1],.agg [.int .i64 a1.m0,.int .i64 a1.m1]]=some (.agg [.int .i64 v1.num,.int .i64 v1.den],false):=qlk h2
 obtain ⟨v3,h4,h⟩:=qa h
 have wh4:qc pr (X pr) 207 [.agg [.int .i64 a0.m2,.int .i64 a0.m3],.agg [.int .i64 a1.m4,.int .i64 a1.m5]]=some (.agg [.int .i64 v3.num,.int .i64 v3.den],false):=qlk h4
 obtain ⟨v5,h6,h⟩:=qa h
 have wh6:qc pr (X pr) 234 [.agg [.int .i64 v1.num,.int .i64 v1.den],.agg [.int .i64 v3.num,.int .i64 v3.den]]=some (.agg [.int .i64 v5.num,.int .i64 v5.den],false):=q0u h6
 obtain ⟨v7,h8,h⟩:=qa h
 have wh8:qc pr (X pr) 207 [.agg [.int .i64 a0.m0,.int .i64 a0.m1],.agg [.int .i64 a1.m2,.int .i64 a1.m3]]=some (.agg [.int .i64 v7.num,.int .i64 v7.den],false):=qlk h8
 obtain ⟨v9,h10,h⟩:=qa h
 have wh10:qc pr (X pr) 207 [.agg [.int .i64 a0.m2,.int .i64 a0.m3],.agg [.int .i64 a1.m6,.int .i64 a1.m7]]=some (.agg [.int .i64 v9.num,.int .i64 v9.den],false):=qlk h10
 obtain ⟨v11,h12,h⟩:=qa h
 have wh12:qc pr (X pr) 234 [.agg [.int .i64 v7.num,.int .i64 v7.den],.agg [.int .i64 v9.num,.int .i64 v9.den]]=some (.agg [.int .i64 v11.num,.int .i64 v11.den],false):=q0u h12
 obtain ⟨v13,h14,h⟩:=qa h
 have wh14:qc pr (X pr) 207 [.agg [.int .i64 a0.m4,.int .i64 a0.m5],.agg [.int .i64 a1.m0,.int .i64 a1.m1]]=some (.agg [.int .i64 v13.num,.int .i64 v13.den],false):=qlk h14
 obtain ⟨v15,h16,h⟩:=qa h
 have wh16:qc pr (X pr) 207 [.agg [.int .i64 a0.m6,.int .i64 a0.m7],.agg [.int .i64 a1.m4,.int .i64 a1.m5]]=some (.agg [.int .i64 v15.num,.int .i64 v15.den],false):=qlk h16
 obtain ⟨v17,h18,h⟩:=qa h
 have wh18:qc pr (X pr) 234 [.agg [.int .i64 v13.num,.int .i64 v13.den],.agg [.int .i64 v15.num,.int .i64 v15.den]]=some (.agg [.int .i64 v17.num,.int .i64 v17.den],false):=q0u h18
 obtain ⟨v19,h20,h⟩:=qa h
 have wh20:qc pr (X pr) 207 [.agg [.int .i64 a0.m4,.int .i64 a0.m5],.agg [.int .i64 a1.m2,.int .i64 a1.m3]]=some (.agg [.int .i64 v19.num,.int .i64 v19.den],false):=qlk h20
 obtain ⟨v21,h22,h⟩:=qa h
 have wh22:qc pr (X pr) 207 [.agg [.int .i64 a0.m6,.int .i64 a0.m7],.agg [.int .i64 a1.m6,.int .i64 a1.m7]]=some (.agg [.int .i64 v21.num,.int .i64 v21.den],false):=qlk h22
 obtain ⟨v23,h24,h⟩:=qa h
 have wh24:qc pr (X pr) 234 [.agg [.int .i64 v19.num,.int .i64 v19.den],.agg [.int .i64 v21.num,.int .i64 v21.den]]=some (.agg [.int .i64 v23.num,.int .i64 v23.den],false):=q0u h24
 have hr:⟨v5.num,v5.den,v11.num,v11.den,v17.num,v17.den,v23.num,v23.den⟩=r:=Option.some.inj h
 subst hr
 refine qp rfl ?_ (fun _=>by first | rfl | simp only [go_sem,seval]) (by first | rfl | simp only [go_sem,seval])
 rw [qf (show pr.fns 206=some c206 from rfl) (by simp)]
 simp only [go_sem,seval,c206,wh2,wh4,wh6,wh8,wh10,wh12,wh14,wh16,wh18,wh20,wh22,wh24]
 exact ⟨_,rfl⟩
noncomputable def f218 (a0:qz):Option zk:=
 some (⟨a0.num,a0.den,1,0,0,0,a0.num,a0.den⟩)
theorem jso {a0:qz} {r} (h:f218 a0=some r):qc pr (X pr) 218 [.agg [.int .i64 a0.num,.int .i64 a0.den]]=some (.agg [.int .i64 r.m0,.int .i64 r.m1,.int .i64 r.m2,.int .i64 r.m3,.int .i64 r.m4,.int .i64 r.m5,.int .i64 r.m6,.int .i64 r.m7],false):=by
 unfold f218 at h
 have hr:⟨a0.num,a0.den,1,0,0,0,a0.num,a0.den⟩=r:=Option.some.inj h
 subst hr
 refine qp rfl ?_ (fun _=>by first | rfl | simp only [go_sem,seval]) (by first | rfl | simp only [go_sem,seval])
 rw [qf (show pr.fns 218=some c218 from rfl) (by simp)]
 simp only [go_sem,seval,c218]
 exact ⟨_,rfl⟩
noncomputable def f219 (a0:qz):Option zk:=
 some (⟨1,0,a0.num,a0.den,0,0,1,0⟩)
theorem jp7 {a0:qz} {r} (h:f219 a0=some r):qc pr (X pr) 219 [.agg [.int .i64 a0.num,.int .i64 a0.den]]=some (.agg [.int .i64 r.m0,.int .i64 r.m1,.int .i64 r.m2,.int .i64 r.m3,.int .i64 r.m4,.int .i64 r.m5,.int .i64 r.m6,.int .i64 r.m7],false):=by
 unfold f219 at h
 have hr:⟨1,0,a0.num,a0.den,0,0,1,0⟩=r:=Option.some.inj h
 subst hr
 refine qp rfl ?_ (fun _=>by first | rfl | simp only [go_sem,seval]) (by first | rfl | simp only [go_sem,seval])
 rw [qf (show pr.fns 219=some c219 from rfl) (by simp)]
 simp only [go_sem,seval,c219]
 exact ⟨_,rfl⟩
noncomputable def f220 (a0:qz):Option zk:=
 some (⟨1,0,0,0,a0.num,a0.den,1,0⟩)
theorem jsq {a0:qz} {r} (h:f220 a0=some r):qc pr (X pr) 220 [.agg [.int .i64 a0.num,.int .i64 a0.den]]=some (.agg [.int .i64 r.m0,.int .i64 r.m1,.int .i64 r.m2,.int .i64 r.m3,.int .i64 r.m4,.int .i64 r.m5,.int .i64 r.m6,.int .i64 r.m7],false):=by
 unfold f220 at h
 have hr:⟨1,0,0,0,a0.num,a0.den,1,0⟩=r:=Option.some.inj h
 subst hr
 refine qp rfl ?_ (fun _=>by first | rfl | simp only [go_sem,seval]) (by first | rfl | simp only [go_sem,seval])
 rw [qf (show pr.fns 220=some c220 from rfl) (by simp)]
 simp only [go_sem,seval,c220]
 exact ⟨_,rfl⟩
noncomputable def f221 (a0:qz):Option zk:=
 some (⟨a0.num,a0.den,0,0,1,0,a0.num,a0.den⟩)
theorem jpk {a0:qz} {r} (h:f221 a0=some r):qc pr (X pr) 221 [.agg [.int .i64 a0.num,.int .i64 a0.den]]=some (.agg [.int .i64 r.m0,.int .i64 r.m1,.int .i64 r.m2,.int .i64 r.m3,.int .i64 r.m4,.int .i64 r.m5,.int .i64 r.m6,.int .i64 r.m7],false):=by
 unfold f221 at h
 have hr:⟨a0.num,a0.den,0,0,1,0,a0.num,a0.den⟩=r:=Option.some.inj h
 subst hr
 refine qp rfl ?_ (fun _=>by first | rfl | simp only [go_sem,seval]) (by first | rfl | simp only [go_sem,seval])
 rw [qf (show pr.fns 221=some c221 from rfl) (by simp)]
 simp only [go_sem,seval,c221]
 exact ⟨_,rfl⟩
noncomputable def qqi (a0:Int) (a1:Int) (s0:Int × Int):Option ((Int × Int) ⊕ ((Int × Int))):=
 cond (decide (s0.2=0))
  (some (.inr (s0.1,s0.2)))
  (qd (qh7 s0.1 s0.2) fun v8=>
  some (.inl (s0.2,v8)))
def qou (a0:Int) (a1:Int) (s0:Int × Int):ASt:=⟨[(0,.int .i64 a0,false),(1,.int .i64 a1,false),(4,.ptr 0 0,false),(5,.int .i64 s0.1,false),(6,.int .i64 s0.2,false)],[.cells [(.int .i64 0,false),(.int .i64 0,false)]]⟩
def qss (a0:Int) (a1:Int) (d:(Int × Int)):jg × ASt:=(.exit 0,⟨[(0,.int .i64 a0,false),(1,.int .i64 a1,false),(4,.ptr 0 0,false),(5,.int .i64 d.1,false),(6,.int .i64 d.2,false),(10,.bool false,false)],[.cells [(.int .i64 0,false),(.int .i64 0,false)]]⟩)
theorem jea (a0:Int) (a1:Int) (s0:Int × Int) (r) (h:qqi a0 a1 s0=some r):zd pr qjs (qou a0 a1) (qss a0 a1) s0 r:=by
 unfold qqi at h
 rcases qb h with ⟨h7,h⟩ | ⟨h7,h⟩
 ·cases h
  exact qj (by simp only [go_sem,seval,qjs,qou,h7,qss] <;> rfl)
 ·obtain ⟨v8,h9,h⟩:=qa h
  cases h
  exact qo (st':=⟨[(0,.int .i64 a0,false),(1,.int .i64 a1,false),(4,.ptr 0 0,false),(5,.int .i64 s0.2,false),(6,.int .i64 v8,false)],[.cells [(.int .i64 0,false),(.int .i64 0,false)]]⟩) (by simp only [go_sem,seval,qjs,qou,h7,qcs h9] <;> rfl) (jc (Nat.le_refl _))
theorem jee (a0:Int) (a1:Int) {s0:Int × Int} {d} (h:itO (qqi a0 a1) s0=some d):X pr (.loop qjs) (qou a0 a1 s0)=some (qss a0 a1 d):=zi (jea a0 a1) (fun d hh=>by cases hh) h
noncomputable def f125 (a0:Int) (a1:Int):Option qz:=
 qd (itO (qqi a0 a1) (a0,a1)) fun d10=>
 qd (qdx .i64 a0 d10.1) fun v12=>
 qd (qdx .i64 a1 d10.1) fun v14=>
 some (⟨v12,v14⟩)
theorem jpm {a0:Int} {a1:Int} {r} (h:f125 a0 a1=some r):qc pr (X pr) 125 [.int .i64 a0,.int .i64 a1]=some (.agg [.int .i64 r.num,.int .i64 r.den],false):=by
 unfold f125 at h
 obtain ⟨d10,h11,h⟩:=qa h
 have wh11:X pr (.loop qjs) ⟨[(0,.int .i64 a0,false),(1,.int .i64 a1,false),(4,.ptr 0 0,false),(5,.int .i64 a0,false),(6,.int .i64 a1,false)],[.cells [(.int .i64 0,false),(.int .i64 0,false)]]⟩=some (.exit 0,⟨[(0,.int .i64 a0,false),(1,.int .i64 a1,false),(4,.ptr 0 0,false),(5,.int .i64 d10.1,false),(6,.int .i64 d10.2,false),(10,.bool false,false)],[.cells [(.int .i64 0,false),(.int .i64 0,false)]]⟩):=jee a0 a1 h11
 obtain ⟨v12,h13,h⟩:=qa h
 obtain ⟨v14,h15,h⟩:=qa h
 have hr:⟨v12,v14⟩=r:=Option.some.inj h
 subst hr
 refine qp rfl ?_ (fun _=>by first | rfl | simp only [go_sem,seval]) (by first | rfl | simp only [go_sem,seval])
 rw [qf (show pr.fns 125=some c125 from rfl) (by simp)]
 simp only [go_sem,seval,c125,wh11,qaj h13,qaj h15]
 exact ⟨_,rfl⟩
noncomputable def qrb (a0:Int) (a1:Int) (s0:Int × Int):Option ((Int × Int) ⊕ ((Int × Int))):=
 cond (decide (s0.2=0))
  (some (.inr (s0.1,s0.2)))
  (qd (qh7 s0.1 s0.2) fun v8=>
  some (.inl (s0.2,v8)))
def qoc (a0:Int) (a1:Int) (s0:Int × Int):ASt:=⟨[(0,.int .i64 a0,false),(1,.int .i64 a1,false),(4,.ptr 0 0,false),(5,.int .i64 s0.1,false),(6,.int .i64 s0.2,false)],[.cells [(.int .i64 0,false),(.int .i64 0,false)]]⟩
def qsf (a0:Int) (a1:Int) (d:(Int × Int)):jg × ASt:=(.exit 0,⟨[(0,.int .i64 a0,false),(1,.int .i64 a1,false),(4,.ptr 0 0,false),(5,.int .i64 d.1,false),(6,.int .i64 d.2,false),(10,.bool false,false)],[.cells [(.int .i64 0,false),(.int .i64 0,false)]]⟩)
theorem jd5 (a0:Int) (a1:Int) (s0:Int × Int) (r) (h:qrb a0 a1 s0=some r):zd pr qj7 (qoc a0 a1) (qsf a0 a1) s0 r:=by
 unfold qrb at h
 rcases qb h with ⟨h7,h⟩ | ⟨h7,h⟩
 ·cases h
  exact qj (by simp only [go_sem,seval,qj7,qoc,h7,qsf] <;> rfl)
 ·obtain ⟨v8,h9,h⟩:=qa h
  cases h
  exact qo (st':=⟨[(0,.int .i64 a0,false),(1,.int .i64 a1,false),(4,.ptr 0 0,false),(5,.int .i64 s0.2,false),(6,.int .i64 v8,false)],[.cells [(.int .i64 0,false),(.int .i64 0,false)]]⟩) (by simp only [go_sem,seval,qj7,qoc,h7,qcs h9] <;> rfl) (jc (Nat.le_refl _))
theorem jc4 (a0:Int) (a1:Int) {s0:Int × Int} {d} (h:itO (qrb a0 a1) s0=some d):X pr (.loop qj7) (qoc a0 a1 s0)=some (qsf a0 a1 d):=zi (jd5 a0 a1) (fun d hh=>by cases hh) h
noncomputable def f174 (a0:Int) (a1:Int):Option qz:=
 qd (itO (qrb a0 a1) (a0,a1)) fun d10=>
 qd (qdx .i64 a0 d10.1) fun v12=>
 qd (qdx .i64 a1 d10.1) fun v14=>
 some (⟨v12,v14⟩)
theorem jrx {a0:Int} {a1:Int} {r} (h:f174 a0 a1=some r):qc pr (X pr) 174 [.int .i64 a0,.int .i64 a1]=some (.agg [.int .i64 r.num,.int .i64 r.den],false):=by
 unfold f174 at h
 obtain ⟨d10,h11,h⟩:=qa h
 have wh11:X pr (.loop qj7) ⟨[(0,.int .i64 a0,false),(1,.int .i64 a1,false),(4,.ptr 0 0,false),(5,.int .i64 a0,false),(6,.int .i64 a1,false)],[.cells [(.int .i64 0,false),(.int .i64 0,false)]]⟩=some (.exit 0,⟨[(0,.int .i64 a0,false),(1,.int .i64 a1,false),(4,.ptr 0 0,false),(5,.int .i64 d10.1,false),(6,.int .i64 d10.2,false),(10,.bool false,false)],[.cells [(.int .i64 0,false),(.int .i64 0,false)]]⟩):=jc4 a0 a1 h11
 obtain ⟨v12,h13,h⟩:=qa h
 obtain ⟨v14,h15,h⟩:=qa h
 have hr:⟨v12,v14⟩=r:=Option.some.inj h
 subst hr
 refine qp rfl ?_ (fun _=>by first | rfl | simp only [go_sem,seval]) (by first | rfl | simp only [go_sem,seval])
 rw [qf (show pr.fns 174=some c174 from rfl) (by simp)]
 simp only [go_sem,seval,c174,wh11,qaj h13,qaj h15]
 exact ⟨_,rfl⟩
noncomputable def f166:Option qz:=
 some (⟨1,0⟩)
theorem qr5 {r} (h:f166=some r):qc pr (X pr) 166 []=some (.agg [.int .i64 r.num,.int .i64 r.den],false):=by
 unfold f166 at h
 have hr:⟨1,0⟩=r:=Option.some.inj h
 subst hr
 refine qp rfl ?_ (fun _=>by first | rfl | simp only [go_sem,seval]) (by first | rfl | simp only [go_sem,seval])
 rw [qf (show pr.fns 166=some c166 from rfl) (by simp)]
 simp only [go_sem,seval,c166]
 exact ⟨_,rfl⟩
noncomputable def f168:Option qz:=
 some (⟨0,0⟩)
theorem qpk {r} (h:f168=some r):qc pr (X pr) 168 []=some (.agg [.int .i64 r.num,.int .i64 r.den],false):=by
 unfold f168 at h
 have hr:⟨0,0⟩=r:=Option.some.inj h
 subst hr
 refine qp rfl ?_ (fun _=>by first | rfl | simp only [go_sem,seval]) (by first | rfl | simp only [go_sem,seval])
 rw [qf (show pr.fns 168=some c168 from rfl) (by simp)]
 simp only [go_sem,seval,c168]
 exact ⟨_,rfl⟩
noncomputable def f167 (a0:GEl) (a1:Int):Option qz:=
 some (⟨a0.a,qg .i64 (a1 * a0.b)⟩)
theorem jem {a0:GEl} {a1:Int} {r} (h:f167 a0 a1=some r):qc pr (X pr) 167 [.agg [.str a0.kind,.int .i64 a0.a,.int .i64 a0.b],.int .i64 a1]=some (.agg [.int .i64 r.num,.int .i64 r.den],false):=by
 unfold f167 at h
 have hr:⟨a0.a,qg .i64 (a1 * a0.b)⟩=r:=Option.some.inj h
 subst hr
 refine qp rfl ?_ (fun _=>by first | rfl | simp only [go_sem,seval]) (by first | rfl | simp only [go_sem,seval])
 rw [qf (show pr.fns 167=some c167 from rfl) (by simp)]
 simp only [go_sem,seval,c167]
 exact ⟨_,rfl⟩
noncomputable def f63 (a0:qz) (a1:qz):Option qz:=
 some (⟨qg .i64 ((qg .i64 (a0.num * a1.num)) - (qg .i64 (a0.den * a1.den))),qg .i64 ((qg .i64 (a0.num * a1.den)) + (qg .i64 (a0.den * a1.num)))⟩)
theorem W63 {a0:qz} {a1:qz} {r} (h:f63 a0 a1=some r):qc pr (X pr) 63 [.agg [.int .i64 a0.num,.int .i64 a0.den],.agg [.int .i64 a1.num,.int .i64 a1.den]]=some (.agg [.int .i64 r.num,.int .i64 r.den],false):=by
 unfold f63 at h
 have hr:⟨qg .i64 ((qg .i64 (a0.num * a1.num)) - (qg .i64 (a0.den * a1.den))),qg .i64 ((qg .i64 (a0.num * a1.den)) + (qg .i64 (a0.den * a1.num)))⟩=r:=Option.some.inj h
 subst hr
 refine qp rfl ?_ (fun _=>by first | rfl | simp only [go_sem,seval]) (by first | rfl | simp only [go_sem,seval])
 rw [qf (show pr.fns 63=some c63 from rfl) (by simp)]
 simp only [go_sem,seval,c63]
 exact ⟨_,rfl⟩
noncomputable def f64 (a0:qz) (a1:qz):Option qz:=
 some (⟨qg .i64 (a0.num + a1.num),qg .i64 (a0.den + a1.den)⟩)
theorem W64 {a0:qz} {a1:qz} {r} (h:f64 a0 a1=some r):qc pr (X pr) 64 [.agg [.int .i64 a0.num,.int .i64 a0.den],.agg [.int .i64 a1.num,.int .i64 a1.den]]=some (.agg [.int .i64 r.num,.int .i64 r.den],false):=by
 unfold f64 at h
 have hr:⟨qg .i64 (a0.num + a1.num),qg .i64 (a0.den + a1.den)⟩=r:=Option.some.inj h
 subst hr
 refine qp rfl ?_ (fun _=>by first | rfl | simp only [go_sem,seval]) (by first | rfl | simp only [go_sem,seval])
 rw [qf (show pr.fns 64=some c64 from rfl) (by simp)]
 simp only [go_sem,seval,c64]
 exact ⟨_,rfl⟩
noncomputable def qun (a0:Int) (a1:Int) (s0:Int × Int):Option ((Int × Int) ⊕ ((Int × Int))):=
 cond (decide (s0.2=0))
  (some (.inr (s0.1,s0.2)))
  (qd (qh7 s0.1 s0.2) fun v9=>
  some (.inl (s0.2,v9)))
def qrh (a0:Int) (a1:Int) (s0:Int × Int):ASt:=⟨[(0,.int .i64 (qg .i64 (0 - a0)),false),(1,.int .i64 (qg .i64 (0 - a1)),false),(4,.ptr 0 0,false),(5,.int .i64 s0.1,false),(6,.int .i64 s0.2,false)],[.cells [(.int .i64 0,false),(.int .i64 0,false)]]⟩
def qwq (a0:Int) (a1:Int) (d:(Int × Int)):jg × ASt:=(.exit 0,⟨[(0,.int .i64 (qg .i64 (0 - a0)),false),(1,.int .i64 (qg .i64 (0 - a1)),false),(4,.ptr 0 0,false),(5,.int .i64 d.1,false),(6,.int .i64 d.2,false),(19,.bool false,false)],[.cells [(.int .i64 0,false),(.int .i64 0,false)]]⟩)
theorem jmm (a0:Int) (a1:Int) (s0:Int × Int) (r) (h:qun a0 a1 s0=some r):zd pr qea (qrh a0 a1) (qwq a0 a1) s0 r:=by
 unfold qun at h
 rcases qb h with ⟨h8,h⟩ | ⟨h8,h⟩
 ·cases h
  exact qj (by simp only [go_sem,seval,qea,qrh,h8,qwq] <;> rfl)
 ·obtain ⟨v9,h10,h⟩:=qa h
  cases h
  exact qo (st':=⟨[(0,.int .i64 (qg .i64 (0 - a0)),false),(1,.int .i64 (qg .i64 (0 - a1)),false),(4,.ptr 0 0,false),(5,.int .i64 s0.2,false),(6,.int .i64 v9,false)],[.cells [(.int .i64 0,false),(.int .i64 0,false)]]⟩) (by simp only [go_sem,seval,qea,qrh,h8,qcs h10] <;> rfl) (jc (Nat.le_refl _))
theorem jjt (a0:Int) (a1:Int) {s0:Int × Int} {d} (h:itO (qun a0 a1) s0=some d):X pr (.loop qea) (qrh a0 a1 s0)=some (qwq a0 a1 d):=zi (jmm a0 a1) (fun d hh=>by cases hh) h
noncomputable def qqh (a0:Int) (a1:Int) (s0:Int × Int):Option ((Int × Int) ⊕ ((Int × Int))):=
 cond (decide (s0.2=0))
  (some (.inr (s0.1,s0.2)))
  (qd (qh7 s0.1 s0.2) fun v24=>
  some (.inl (s0.2,v24)))
def qoi (a0:Int) (a1:Int) (s0:Int × Int):ASt:=⟨[(0,.int .i64 a0,false),(1,.int .i64 a1,false),(4,.ptr 0 0,false),(5,.int .i64 s0.1,false),(6,.int .i64 s0.2,false)],[.cells [(.int .i64 0,false),(.int .i64 0,false)]]⟩
def qsy (a0:Int) (a1:Int) (d:(Int × Int)):jg × ASt:=(.exit 0,⟨[(0,.int .i64 a0,false),(1,.int .i64 a1,false),(4,.ptr 0 0,false),(5,.int .i64 d.1,false),(6,.int .i64 d.2,false),(19,.bool false,false)],[.cells [(.int .i64 0,false),(.int .i64 0,false)]]⟩)
theorem ja6 (a0:Int) (a1:Int) (s0:Int × Int) (r) (h:qqh a0 a1 s0=some r):zd pr qea (qoi a0 a1) (qsy a0 a1) s0 r:=by
 unfold qqh at h
 rcases qb h with ⟨h23,h⟩ | ⟨h23,h⟩
 ·cases h
  exact qj (by simp only [go_sem,seval,qea,qoi,h23,qsy] <;> rfl)
 ·obtain ⟨v24,h25,h⟩:=qa h
  cases h
  exact qo (st':=⟨[(0,.int .i64 a0,false),(1,.int .i64 a1,false),(4,.ptr 0 0,false),(5,.int .i64 s0.2,false),(6,.int .i64 v24,false)],[.cells [(.int .i64 0,false),(.int .i64 0,false)]]⟩) (by simp only [go_sem,seval,qea,qoi,h23,qcs h25] <;> rfl) (jc (Nat.le_refl _))
theorem jcc (a0:Int) (a1:Int) {s0:Int × Int} {d} (h:itO (qqh a0 a1) s0=some d):X pr (.loop qea) (qoi a0 a1 s0)=some (qsy a0 a1 d):=zi (ja6 a0 a1) (fun d hh=>by cases hh) h
noncomputable def f66 (a0:Int) (a1:Int):Option qz:=
 cond (decide (a1 < 0))
  (qd (itO (qun a0 a1) (max (qg .i64 (0 - a0)) (qg .i64 (0 - (qg .i64 (0 - a0)))),qg .i64 (0 - a1))) fun d11=>
  qd (qdx .i64 (qg .i64 (0 - a0)) d11.1) fun v13=>
  qd (qdx .i64 (qg .i64 (0 - a1)) d11.1) fun v15=>
  some (⟨v13,v15⟩))
  (qd (itO (qqh a0 a1) (max a0 (qg .i64 (0 - a0)),a1)) fun d26=>
  qd (qdx .i64 a0 d26.1) fun v28=>
  qd (qdx .i64 a1 d26.1) fun v30=>
  some (⟨v28,v30⟩))
theorem W66 {a0:Int} {a1:Int} {r} (h:f66 a0 a1=some r):qc pr (X pr) 66 [.int .i64 a0,.int .i64 a1]=some (.agg [.int .i64 r.num,.int .i64 r.den],false):=by
 unfold f66 at h
 rcases qb h with ⟨h1,h⟩ | ⟨h1,h⟩
 ·obtain ⟨d11,h12,h⟩:=qa h
  have wh12:X pr (.loop qea) ⟨[(0,.int .i64 (qg .i64 (0 - a0)),false),(1,.int .i64 (qg .i64 (0 - a1)),false),(4,.ptr 0 0,false),(5,.int .i64 (max (qg .i64 (0 - a0)) (qg .i64 (0 - (qg .i64 (0 - a0))))),false),(6,.int .i64 (qg .i64 (0 - a1)),false)],[.cells [(.int .i64 0,false),(.int .i64 0,false)]]⟩=some (.exit 0,⟨[(0,.int .i64 (qg .i64 (0 - a0)),false),(1,.int .i64 (qg .i64 (0 - a1)),false),(4,.ptr 0 0,false),(5,.int .i64 d11.1,false),(6,.int .i64 d11.2,false),(19,.bool false,false)],[.cells [(.int .i64 0,false),(.int .i64 0,false)]]⟩):=jjt a0 a1 h12
  obtain ⟨v13,h14,h⟩:=qa h
  obtain ⟨v15,h16,h⟩:=qa h
  have hr:⟨v13,v15⟩=r:=Option.some.inj h
  subst hr
  refine qp rfl ?_ (fun _=>by first | rfl | simp only [go_sem,seval]) (by first | rfl | simp only [go_sem,seval])
  rw [qf (show pr.fns 66=some c66 from rfl) (by simp)]
  simp only [go_sem,seval,c66,h1,wh12,qaj h14,qaj h16]
  exact ⟨_,rfl⟩
 ·obtain ⟨d26,h27,h⟩:=qa h
  have wh27:X pr (.loop qea) ⟨[(0,.int .i64 a0,false),(1,.int .i64 a1,false),(4,.ptr 0 0,false),(5,.int .i64 (max a0 (qg .i64 (0 - a0))),false),(6,.int .i64 a1,false)],[.cells [(.int .i64 0,false),(.int .i64 0,false)]]⟩=some (.exit 0,⟨[(0,.int .i64 a0,false),(1,.int .i64 a1,false),(4,.ptr 0 0,false),(5,.int .i64 d26.1,false),(6,.int .i64 d26.2,false),(19,.bool false,false)],[.cells [(.int .i64 0,false),(.int .i64 0,false)]]⟩):=jcc a0 a1 h27
  obtain ⟨v28,h29,h⟩:=qa h
  obtain ⟨v30,h31,h⟩:=qa h
  have hr:⟨v28,v30⟩=r:=Option.some.inj h
  subst hr
  refine qp rfl ?_ (fun _=>by first | rfl | simp only [go_sem,seval]) (by first | rfl | simp only [go_sem,seval])
  rw [qf (show pr.fns 66=some c66 from rfl) (by simp)]
  simp only [go_sem,seval,c66,h1,wh27,qaj h29,qaj h31]
  exact ⟨_,rfl⟩
noncomputable def f130 (a0:qz):Option Int:=
 some (qg .i64 ((qg .i64 (a0.num * a0.num)) + (qg .i64 (a0.den * a0.den))))
theorem jca {a0:qz} {r} (h:f130 a0=some r):qc pr (X pr) 130 [.agg [.int .i64 a0.num,.int .i64 a0.den]]=some (.int .i64 r,false):=by
 unfold f130 at h
 have hr:qg .i64 ((qg .i64 (a0.num * a0.num)) + (qg .i64 (a0.den * a0.den)))=r:=Option.some.inj h
 subst hr
 refine qp rfl ?_ (fun _=>by first | rfl | simp only [go_sem,seval]) (by first | rfl | simp only [go_sem,seval])
 rw [qf (show pr.fns 130=some c130 from rfl) (by simp)]
 simp only [go_sem,seval,c130]
 exact ⟨_,rfl⟩
noncomputable def f170 (a0:List UInt8) (a1:qz):Option zk:=
 cond (decide (a0=([115,101,114,105,101,115]:List UInt8)))
  (qd (f166) fun v2=>
  qd (f168) fun v4=>
  some (⟨v2.num,v2.den,a1.num,a1.den,v4.num,v4.den,v2.num,v2.den⟩))
  (cond (decide (a0=([115,104,117,110,116]:List UInt8)))
   (qd (f166) fun v7=>
   qd (f168) fun v9=>
   some (⟨v7.num,v7.den,v9.num,v9.den,a1.num,a1.den,v7.num,v7.den⟩))
   (cond (decide (a0=([98,108,111,99,107]:List UInt8)))
    (qd (f166) fun v12=>
    qd (f168) fun v14=>
    some (⟨a1.num,a1.den,v12.num,v12.den,v14.num,v14.den,a1.num,a1.den⟩))
    (qd (f168) fun v16=>
    qd (f166) fun v18=>
    some (⟨a1.num,a1.den,v16.num,v16.den,v18.num,v18.den,a1.num,a1.den⟩))))
theorem jrd {a0:List UInt8} {a1:qz} {r} (h:f170 a0 a1=some r):qc pr (X pr) 170 [.str a0,.agg [.int .i64 a1.num,.int .i64 a1.den]]=some (.agg [.int .i64 r.m0,.int .i64 r.m1,.int .i64 r.m2,.int .i64 r.m3,.int .i64 r.m4,.int .i64 r.m5,.int .i64 r.m6,.int .i64 r.m7],false):=by
 unfold f170 at h
 rcases qb h with ⟨h1,h⟩ | ⟨h1,h⟩
 ·obtain ⟨v2,h3,h⟩:=qa h
  obtain ⟨v4,h5,h⟩:=qa h
  have hr:⟨v2.num,v2.den,a1.num,a1.den,v4.num,v4.den,v2.num,v2.den⟩=r:=Option.some.inj h
  subst hr
  refine qp rfl ?_ (fun _=>by first | rfl | simp only [go_sem,seval]) (by first | rfl | simp only [go_sem,seval])
  rw [qf (show pr.fns 170=some c170 from rfl) (by simp)]
  simp only [go_sem,seval,c170,h1,qr5 h3,qpk h5]
  exact ⟨_,rfl⟩
 ·rcases qb h with ⟨h6,h⟩ | ⟨h6,h⟩
  ·obtain ⟨v7,h8,h⟩:=qa h
   obtain ⟨v9,h10,h⟩:=qa h
   have hr:⟨v7.num,v7.den,v9.num,v9.den,a1.num,a1.den,v7.num,v7.den⟩=r:=Option.some.inj h
   subst hr
   refine qp rfl ?_ (fun _=>by first | rfl | simp only [go_sem,seval]) (by first | rfl | simp only [go_sem,seval])
   rw [qf (show pr.fns 170=some c170 from rfl) (by simp)]
   simp only [go_sem,seval,c170,h1,h6,qr5 h8,qpk h10]
   exact ⟨_,rfl⟩
  ·rcases qb h with ⟨h11,h⟩ | ⟨h11,h⟩
   ·obtain ⟨v12,h13,h⟩:=qa h
    obtain ⟨v14,h15,h⟩:=qa h
    have hr:⟨a1.num,a1.den,v12.num,v12.den,v14.num,v14.den,a1.num,a1.den⟩=r:=Option.some.inj h
    subst hr
    refine qp rfl ?_ (fun _=>by first | rfl | simp only [go_sem,seval]) (by first | rfl | simp only [go_sem,seval])
    rw [qf (show pr.fns 170=some c170 from rfl) (by simp)]
    simp only [go_sem,seval,c170,h1,h6,h11,qr5 h13,qpk h15]
    exact ⟨_,rfl⟩
   ·obtain ⟨v16,h17,h⟩:=qa h
    obtain ⟨v18,h19,h⟩:=qa h
    have hr:⟨a1.num,a1.den,v16.num,v16.den,v18.num,v18.den,a1.num,a1.den⟩=r:=Option.some.inj h
    subst hr
    refine qp rfl ?_ (fun _=>by first | rfl | simp only [go_sem,seval]) (by first | rfl | simp only [go_sem,seval])
    rw [qf (show pr.fns 170=some c170 from rfl) (by simp)]
    simp only [go_sem,seval,c170,h1,h6,h11,qpk h17,qr5 h19]
    exact ⟨_,rfl⟩
end Go.Z
/-
 Chapter 4: the product of two matrices,in the reference.
-/
namespace Go.Z
open Go Go.Abs
theorem wr0:qg .i64 0=0:=by decide
theorem wr1:qg .i64 1=1:=by decide
theorem wr2:qg .i64 2=2:=by decide
theorem wr3:qg .i64 3=3:=by decide
theorem wr4:qg .i64 4=4:=by decide
theorem jdh {e:Env} {a b:ABox}:gc 2 ⟨e,[a,b]⟩=⟨e,[a,b]⟩:=jc (Nat.le_refl _)
noncomputable def f169 (a0:zk) (a1:zk):Option zk:=
 qd (f63 (⟨a0.m0,a0.m1⟩) (⟨a1.m0,a1.m1⟩)) fun v1=>
 qd (f63 (⟨a0.m2,a0.m3⟩) (⟨a1.m4,a1.m5⟩)) fun v3=>
 qd (f64 v1 v3) fun v5=>
 qd (f63 (⟨a0.m0,a0.m1⟩) (⟨a1.m2,a1.m3⟩)) fun v7=>
 qd (f63 (⟨a0.m2,a0.m3⟩) (⟨a1.m6,a1.m7⟩)) fun v9=>
 qd (f64 v7 v9) fun v11=>
 qd (f63 (⟨a0.m4,a0.m5⟩) (⟨a1.m0,a1.m1⟩)) fun v13=>
 qd (f63 (⟨a0.m6,a0.m7⟩) (⟨a1.m4,a1.m5⟩)) fun v15=>
 qd (f64 v13 v15) fun v17=>
 qd (f63 (⟨a0.m4,a0.m5⟩) (⟨a1.m2,a1.m3⟩)) fun v19=>
 qd (f63 (⟨a0.m6,a0.m7⟩) (⟨a1.m6,a1.m7⟩)) fun v21=>
 qd (f64 v19 v21) fun v23=>
 some (⟨v5.num,v5.den,v11.num,v11.den,v17.num,v17.den,v23.num,v23.den⟩)
theorem jo5 {a0:zk} {a1:zk} {r} (h:f169 a0 a1=some r):qc pr (X pr) 169 [.agg [.int .i64 a0.m0,.int .i64 a0.m1,.int .i64 a0.m2,.int .i64 a0.m3,.int .i64 a0.m4,.int .i64 a0.m5,.int .i64 a0.m6,.int .i64 a0.m7],.agg [.int .i64 a1.m0,.int .i64 a1.m1,.int .i64 a1.m2,.int .i64 a1.m3,.int .i64 a1.m4,.int .i64 a1.m5,.int .i64 a1.m6,.int .i64 a1.m7]]=some (.agg [.int .i64 r.m0,.int .i64 r.m1,.int .i64 r.m2,.int .i64 r.m3,.int .i64 r.m4,.int .i64 r.m5,.int .i64 r.m6,.int .i64 r.m7],false):=by
 unfold f169 at h
 obtain ⟨v1,h2,h⟩:=qa h
 have wh2:qc pr (X pr) 63 [.agg [.int .i64 a0.m0,.int .i64 a0.m1],.agg [.int .i64 a1.m0,.int .i64 a1.m1]]=some (.agg [.int .i64 v1.num,.int .i64 v1.den],false):=W63 h2
 obtain ⟨v3,h4,h⟩:=qa h
 have wh4:qc pr (X pr) 63 [.agg [.int .i64 a0.m2,.int .i64 a0.m3],.agg [.int .i64 a1.m4,.int .i64 a1.m5]]=some (.agg [.int .i64 v3.num,.int .i64 v3.den],false):=W63 h4
 obtain ⟨v5,h6,h⟩:=qa h
 have wh6:qc pr (X pr) 64 [.agg [.int .i64 v1.num,.int .i64 v1.den],.agg [.int .i64 v3.num,.int .i64 v3.den]]=some (.agg [.int .i64 v5.num,.int .i64 v5.den],false):=W64 h6
 obtain ⟨v7,h8,h⟩:=qa h
 have wh8:qc pr (X pr) 63 [.agg [.int .i64 a0.m0,.int .i64 a0.m1],.agg [.int .i64 a1.m2,.int .i64 a1.m3]]=some (.agg [.int .i64 v7.num,.int .i64 v7.den],false):=W63 h8
 obtain ⟨v9,h10,h⟩:=qa h
 have wh10:qc pr (X pr) 63 [.agg [.int .i64 a0.m2,.int .i64 a0.m3],.agg [.int .i64 a1.m6,.int .i64 a1.m7]]=some (.agg [.int .i64 v9.num,.int .i64 v9.den],false):=W63 h10
 obtain ⟨v11,h12,h⟩:=qa h
 have wh12:qc pr (X pr) 64 [.agg [.int .i64 v7.num,.int .i64 v7.den],.agg [.int .i64 v9.num,.int .i64 v9.den]]=some (.agg [.int .i64 v11.num,.int .i64 v11.den],false):=W64 h12
 obtain ⟨v13,h14,h⟩:=qa h
 have wh14:qc pr (X pr) 63 [.agg [.int .i64 a0.m4,.int .i64 a0.m5],.agg [.int .i64 a1.m0,.int .i64 a1.m1]]=some (.agg [.int .i64 v13.num,.int .i64 v13.den],false):=W63 h14
 obtain ⟨v15,h16,h⟩:=qa h
 have wh16:qc pr (X pr) 63 [.agg [.int .i64 a0.m6,.int .i64 a0.m7],.agg [.int .i64 a1.m4,.int .i64 a1.m5]]=some (.agg [.int .i64 v15.num,.int .i64 v15.den],false):=W63 h16
 obtain ⟨v17,h18,h⟩:=qa h
 have wh18:qc pr (X pr) 64 [.agg [.int .i64 v13.num,.int .i64 v13.den],.agg [.int .i64 v15.num,.int .i64 v15.den]]=some (.agg [.int .i64 v17.num,.int .i64 v17.den],false):=W64 h18
 obtain ⟨v19,h20,h⟩:=qa h
 have wh20:qc pr (X pr) 63 [.agg [.int .i64 a0.m4,.int .i64 a0.m5],.agg [.int .i64 a1.m2,.int .i64 a1.m3]]=some (.agg [.int .i64 v19.num,.int .i64 v19.den],false):=W63 h20
 obtain ⟨v21,h22,h⟩:=qa h
 have wh22:qc pr (X pr) 63 [.agg [.int .i64 a0.m6,.int .i64 a0.m7],.agg [.int .i64 a1.m6,.int .i64 a1.m7]]=some (.agg [.int .i64 v21.num,.int .i64 v21.den],false):=W63 h22
 obtain ⟨v23,h24,h⟩:=qa h
 have wh24:qc pr (X pr) 64 [.agg [.int .i64 v19.num,.int .i64 v19.den],.agg [.int .i64 v21.num,.int .i64 v21.den]]=some (.agg [.int .i64 v23.num,.int .i64 v23.den],false):=W64 h24
 have hr:⟨v5.num,v5.den,v11.num,v11.den,v17.num,v17.den,v23.num,v23.den⟩=r:=Option.some.inj h
 subst hr
 have this:∃ hh,jl pr (X pr) 169 [.agg [.int .i64 a0.m0,.int .i64 a0.m1,.int .i64 a0.m2,.int .i64 a0.m3,.int .i64 a0.m4,.int .i64 a0.m5,.int .i64 a0.m6,.int .i64 a0.m7],.agg [.int .i64 a1.m0,.int .i64 a1.m1,.int .i64 a1.m2,.int .i64 a1.m3,.int .i64 a1.m4,.int .i64 a1.m5,.int .i64 a1.m6,.int .i64 a1.m7]] []=some (.agg [.int .i64 v5.num,.int .i64 v5.den,.int .i64 v11.num,.int .i64 v11.den,.int .i64 v17.num,.int .i64 v17.den,.int .i64 v23.num,.int .i64 v23.den],false,hh):=by
  rw [qf (show pr.fns 169=some c169 from rfl) (by simp)]
  simp only [c169,q33,q4r]
  simp only [go_sem,seval,qy7,jdh,wr0,wr1,wr2,wr3,wr4,wh2,wh4,wh6,wh8,wh10,wh12,wh14,wh16,wh18,wh20,wh22,wh24]
  exact ⟨_,rfl⟩
 obtain ⟨hh,this⟩:=this
 exact qc9 rfl this (by first | rfl | simp only [go_sem,seval]) (by first | rfl | simp only [go_sem,seval])
end Go.Z
/-
 Chapter 4: the chain matrix and the divisor of a ladder,in the program: a range over a function.
-/
namespace Go.Z
open Go Go.Abs
def pcL:ACode→ACode
 | .seq a _=>a
 | x=>x
def pcR:ACode→ACode
 | .seq _ b=>b
 | x=>x
def pcB:ACode→ACode
 | .block _ b=>b
 | x=>x
def rfA:ACode→ACode
 | .rangeFunc _ _ a _=>a
 | x=>x
def rfB:ACode→ACode
 | .rangeFunc _ _ _ b=>b
 | x=>x
theorem qo8 {n:Nat} {v:AVal} {h:ql} (hn:h.length=n):yc n v h=h:=by
 unfold yc
 rw [Nat.ble_eq_true_of_le (by omega)]; rfl
theorem ql3 {n:Nat} {v:AVal} {h t:ql} (hn:h.length=n) (hv:Abs.below n v=true) (hb:jz n h=true):yc n v (h++t)=h:=by
 have ht:(h++t).take n=h:=by rw [← hn,List.take_left']; rfl
 unfold yc
 rw [ht,hv,hb]
 cases hc:Nat.ble (h++t).length n with
 | false=>rfl
 | true=>
  have:=Nat.le_of_ble_eq_true hc
  rw [List.length_append] at this
  have h0:t=[]:=List.length_eq_zero_iff.1 (by omega)
  subst h0
  simp
def mcs (m:zk):List (AVal × Bool):=[(.int .i64 m.m0,false),(.int .i64 m.m1,false),(.int .i64 m.m2,false),(.int .i64 m.m3,false),(.int .i64 m.m4,false),(.int .i64 m.m5,false),(.int .i64 m.m6,false),(.int .i64 m.m7,false)]
def gcs (d:qz):List (AVal × Bool):=[(.int .i64 d.num,false),(.int .i64 d.den,false)]
def qit:ACode:=pcB (pcR (pcL (pcR (pcR c173.body))))
def qgr:ACode:=rfA qit
def qfa:ACode:=rfB qit
theorem q4u:qit=.rangeFunc (.tmp 18) [19,20] qgr qfa:=rfl
section
variable (l:Option (List GEl)) (w:Int)
def qc7:Env:=[(4,.ptr 0 0,false),(5,.ptr 1 0,false),(6,.ptr 2 0,false),(7,.ptr 3 0,false),(18,.fn (.func 233) [] [.vptr (sl 3 vel l),.vptr (.int .i64 w)],false)]
def z2:List (AVal × Bool):=[(.int .i64 0,false),(.int .i64 0,false)]
def z8:List (AVal × Bool):=[(.int .i64 0,false),(.int .i64 0,false),(.int .i64 0,false),(.int .i64 0,false),(.int .i64 0,false),(.int .i64 0,false),(.int .i64 0,false),(.int .i64 0,false)]
def qnj (m:zk) (d:qz):ql:=[.cells z8,.cells z2,.cells (mcs m),.cells (gcs d)]
def k8 (m:zk) (d:qz) (pd:Option jg) (t:ql):ql:=.cells z8::.cells z2::.cells (mcs m)::.cells (gcs d)::.loop ⟨qc7 l w,[19,20],qgr,qfa,pd⟩::t
def ke (s:List UInt8) (b:Bool) (n:Nat):AVal:=.agg [.str s,.bool b,.fn (.func n) [] []]
def ga (v:qz):AVal:=.agg [.int .i64 v.num,.int .i64 v.den]
def tl (s:List UInt8) (b:Bool) (n:Nat) (v:qz):ql:=[.cells [(.str s,false),(.bool b,false),(.fn (.func n) [] [],false)],.cells (gcs v)]
def t2 (x:GEl):ql:=[.map zf,.cells [(.str x.kind,false),(.int .i64 x.a,false),(.int .i64 x.b,false)]]
def quw:Env:=[(4,.ptr 0 0,false),(5,.ptr 1 0,false),(6,.ptr 2 0,false),(7,.ptr 3 0,false),(8,.ptr 7 0,false),(9,.ptr 8 0,false)]
variable {l w}
theorem q2u {s b n} {v m d} {x:GEl}:X pr qgr ⟨(20,ga v,false)::(19,ke s b n,false)::qc7 l w,k8 l w m d none (t2 x)⟩=some (.normal,⟨quw,k8 l w m d none (t2 x++tl s b n v)⟩):=by
 simp only [go_sem,seval,qgr,rfA,qit,pcB,pcL,pcR,c173,qc7,ke,ga,k8,t2] <;> rfl
theorem q3x {s b n} {v c m m1:_} {d d1:qz} {x:GEl} {pd} (h1:qc pr (X pr) n [ga v]=some (.agg [.int .i64 c.m0,.int .i64 c.m1,.int .i64 c.m2,.int .i64 c.m3,.int .i64 c.m4,.int .i64 c.m5,.int .i64 c.m6,.int .i64 c.m7],false))
  (h2:f206 m c=some m1) (h3:cond b (f207 d v) (some d)=some d1):∃ e,X pr qfa ⟨quw,k8 l w m d pd (t2 x++tl s b n v)⟩=some (.normal,⟨e,k8 l w m1 d1 pd (t2 x++tl s b n v)⟩):=by
 have g2:=jq5 h2
 simp only [ga] at h1
 cases b with
 | true=>
  have g3:=qlk (show f207 d v=some d1 from h3)
  simp only [go_sem,seval,qfa,rfB,qit,pcB,pcL,pcR,c173,quw,k8,t2,tl,mcs,gcs,h1,g2,g3]
  exact ⟨_,rfl⟩
 | false=>
  obtain rfl:d=d1:=Option.some.inj h3
  simp only [go_sem,seval,qfa,rfB,qit,pcB,pcL,pcR,c173,quw,k8,t2,tl,mcs,gcs,h1,g2]
  exact ⟨_,rfl⟩
theorem q1g:km 7 (qc7 l w)=true:=by
 have hb:Abs.below 7 (sl 3 vel l)=true:=by simp only [go_sem,seval]
 have h1:jy 7 [.vptr (sl 3 vel l),.vptr (.int .i64 w)]=true:=by
  show (Abs.below 7 (sl 3 vel l) && true)=true
  rw [hb]; rfl
 have h2:Abs.below 7 (.fn (.func 233) [] [.vptr (sl 3 vel l),.vptr (.int .i64 w)])=true:=by
  show (true && jy 7 [.vptr (sl 3 vel l),.vptr (.int .i64 w)])=true
  rw [h1]; rfl
 simp only [qc7,km,List.all_cons,List.all_nil,h2]
 rfl
theorem qyl:km 6 (qc7 l w)=true:=by
 have hb:Abs.below 6 (sl 3 vel l)=true:=by simp only [go_sem,seval]
 have h1:jy 6 [.vptr (sl 3 vel l),.vptr (.int .i64 w)]=true:=by
  show (Abs.below 6 (sl 3 vel l) && true)=true
  rw [hb]; rfl
 have h2:Abs.below 6 (.fn (.func 233) [] [.vptr (sl 3 vel l),.vptr (.int .i64 w)])=true:=by
  show (true && jy 6 [.vptr (sl 3 vel l),.vptr (.int .i64 w)])=true
  rw [h1]; rfl
 simp only [qc7,km,List.all_cons,List.all_nil,h2]
 rfl
theorem qzv {m d pd} {x:GEl}:jz 7 (k8 l w m d pd (t2 x))=true:=by
 simp only [k8,t2,jz,List.all_cons,List.all_nil,y9,q1g,mcs,gcs,z8,z2,zf]
 rfl
theorem jsm {s b n} {v c m m1:_} {d d1:qz} {x:GEl} (h1:qc pr (X pr) n [ga v]=some (.agg [.int .i64 c.m0,.int .i64 c.m1,.int .i64 c.m2,.int .i64 c.m3,.int .i64 c.m4,.int .i64 c.m5,.int .i64 c.m6,.int .i64 c.m7],false))
  (h2:f206 m c=some m1) (h3:cond b (f207 d v) (some d)=some d1):kx (X pr) 4 [ke s b n,ga v] (k8 l w m d none (t2 x))=some (.bool true,k8 l w m1 d1 none (t2 x)):=by
 have g:∀ m d pd t,yf (k8 l w m d pd t) 4=some (.loop ⟨qc7 l w,[19,20],qgr,qfa,pd⟩):=fun _ _ _ _=>rfl
 have se:qdc (noOwn (qc7 l w)) [19,20] [ke s b n,ga v]=some ((20,ga v,false)::(19,ke s b n,false)::qc7 l w):=rfl
 have st:∀ m d pd pd' t,(k8 l w m d pd t).set 4 (.loop ⟨qc7 l w,[19,20],qgr,qfa,pd'⟩)=k8 l w m d pd' t:=fun _ _ _ _ _=>rfl
 have hl:∀ m d pd,(k8 l w m d pd (t2 x)).length=7:=fun _ _ _=>rfl
 have ha:∀ m d pd v t,Abs.below 7 v=true→yc 7 v (k8 l w m d pd (t2 x++t))=k8 l w m d pd (t2 x):=fun m d pd v t hv=>ql3 (h:=k8 l w m d pd (t2 x)) rfl hv qzv
 obtain ⟨e,hb⟩:=q3x (l:=l) (w:=w) (s:=s) (x:=x) (pd:=some .normal) h1 h2 h3
 unfold kx
 simp only [g,se,q2u,Option.isNone_none,cond_true,st,hl,hb]
 rw [ha _ _ _ _ _ rfl]
end
noncomputable def kOf (s:List UInt8) (v:qz):Option (zk × Bool):=
 cond (decide (s=([98,108,111,99,107]:List UInt8))) (qd (f218 v) fun c=>some (c,true))
  (cond (decide (s=([115,101,114,105,101,115]:List UInt8))) (qd (f219 v) fun c=>some (c,false))
  (cond (decide (s=([115,104,117,110,116]:List UInt8))) (qd (f220 v) fun c=>some (c,false))
   (cond (decide (s=([116,114,97,112]:List UInt8))) (qd (f221 v) fun c=>some (c,true)) none)))
theorem q8v {s:List UInt8} {v:qz} {c b} (h:kOf s v=some (c,b)):∃ t k n,j5 .str (.str s) zf 0=some (some (t,ke k b n))∧qc pr (X pr) n [ga v]=some (.agg [.int .i64 c.m0,.int .i64 c.m1,.int .i64 c.m2,.int .i64 c.m3,.int .i64 c.m4,.int .i64 c.m5,.int .i64 c.m6,.int .i64 c.m7],false):=by
 unfold kOf at h
 rcases qb h with ⟨h1,k⟩ | ⟨h1,k⟩
 ·obtain ⟨c',h2,k⟩:=qa k
  cases k
  exact ⟨_,_,_,qrn h1,jso h2⟩
 rcases qb k with ⟨h2,k⟩ | ⟨h2,k⟩
 ·obtain ⟨c',h3,k⟩:=qa k
  cases k
  exact ⟨_,_,_,q00 h1 h2,jp7 h3⟩
 rcases qb k with ⟨h3,k⟩ | ⟨h3,k⟩
 ·obtain ⟨c',h4,k⟩:=qa k
  cases k
  exact ⟨_,_,_,q1q h1 h2 h3,jsq h4⟩
 rcases qb k with ⟨h4,k⟩ | ⟨h4,k⟩
 ·obtain ⟨c',h5,k⟩:=qa k
  cases k
  exact ⟨_,_,_,qp3 h1 h2 h3 h4,jpk h5⟩
 ·cases k
noncomputable def quj (w:Int) (q:zk × qz) (x:GEl):Option (zk × qz):=
 qd (kOf x.kind ⟨x.a,qg .i64 (w * x.b)⟩) fun c=>qd (f206 q.1 c.1) fun m=>qd (cond c.2 (f207 q.2 ⟨x.a,qg .i64 (w * x.b)⟩) (some q.2)) fun d=>some (m,d)
noncomputable def qiu (w:Int):List GEl→zk × qz→Option (zk × qz)
 | [],q=>some q
 | x::l,q=>qd (quj w q x) fun q'=>qiu w l q'
noncomputable def qv4 (w:Int) (l:Option (List GEl)) (d:Int × zk × qz):Option ((Int × zk × qz) ⊕ (Int × zk × qz)):=
 cond (decide (d.1 < ((l.getD []).length:Int))) (qd (j7 (l.getD []) d.1) fun x=>qd (quj w d.2 x) fun q=>some (.inl (qg .i64 (d.1 + 1),q))) (some (.inr d))
def qqy (w:Int) (l:Option (List GEl)) (d:Int × zk × qz):ASt:=⟨[(0,.fn (.yield 4) [] [],false),(2,.vptr (.int .i64 w),false),(4,.map 5,false),(8,sl 3 vel l,false),(9,.int .i64 ((l.getD []).length:Int),false),(10,.int .i64 d.1,false)],k8 l w d.2.1 d.2.2 none [.map zf]⟩
def qus (w:Int) (l:Option (List GEl)) (d:Int × zk × qz):jg × ASt:=(.exit 0,⟨[(0,.fn (.yield 4) [] [],false),(2,.vptr (.int .i64 w),false),(4,.map 5,false),(8,sl 3 vel l,false),(9,.int .i64 ((l.getD []).length:Int),false),(10,.int .i64 d.1,false),(11,.bool false,false)],k8 l w d.2.1 d.2.2 none [.map zf]⟩)
theorem jrs {w:Int} {l:Option (List GEl)} (d:Int × zk × qz) (r) (h:qv4 w l d=some r):zd pr qmm (qqy w l) (qus w l) d r:=by
 obtain ⟨i,m,e⟩:=d
 unfold qv4 at h
 dsimp only at h
 rcases qb h with ⟨h1,k⟩ | ⟨h1,k⟩
 ·obtain ⟨x,h2,k⟩:=qa k
  obtain ⟨q,h3,k⟩:=qa k
  cases k
  unfold quj at h3
  obtain ⟨⟨c,b⟩,h4,k⟩:=qa h3
  obtain ⟨m1,h5,k⟩:=qa k
  obtain ⟨d1,h6,k⟩:=qa k
  cases k
  obtain ⟨t,kk,n,g1,g2⟩:=q8v h4
  have hy:=jsm (l:=l) (w:=w) (s:=kk) (x:=x) g2 h5 h6
  simp only [k8,t2,ke,ga] at hy g1
  refine qo (st':=⟨[(0,.fn (.yield 4) [] [],false),(2,.vptr (.int .i64 w),false),(4,.map 5,false),(8,sl 3 vel l,false),(9,.int .i64 ((l.getD []).length:Int),false),(10,.int .i64 (qg .i64 (i + 1)),false)],k8 l w m1 d1 none (t2 x)⟩) (by simp only [go_sem,seval,qmm,qqy,k8,t2,h1,qw h2,g1,hy] <;> rfl) ?_
  exact zp (h:=k8 l w m1 d1 none [.map zf]) (h':=[.cells [(.str x.kind,false),(.int .i64 x.a,false),(.int .i64 x.b,false)]]) rfl rfl (by
   have hb:Abs.below 6 (sl 3 vel l)=true:=by simp only [go_sem,seval]
   show ((true && true) && ((true && true) && (true && (Abs.below 6 (sl 3 vel l) && (true && (true && true))))))=true
   rw [hb]; rfl) (by
   show jz 6 _=true
   simp only [k8,jz,List.all_cons,List.all_nil,y9,qyl,mcs,gcs,z8,z2,zf]
   rfl)
 ·cases k
  exact qj (by simp only [go_sem,seval,qmm,qqy,k8,h1,qus] <;> rfl)
theorem q7c {w:Int} {l:Option (List GEl)} (hl:(l.getD []).length≤5):∀ {k:Nat} {i:Nat} {q r:zk × qz},(l.getD []).length=i + k→qiu w ((l.getD []).drop i) q=some r→itO (qv4 w l) ((i:Int),q)=some (((l.getD []).length:Int),r)
 | 0,i,q,r,hk,h=>by
  rw [List.drop_eq_nil_of_le (by omega)] at h
  cases h
  have hd:decide ((i:Int) < ((l.getD []).length:Int))=false:=decide_eq_false (by omega)
  rw [qad (d:=((i:Int),q)) (by simp only [qv4,hd,cond_false]),show (i:Int)=((l.getD []).length:Int) by omega]
 | k + 1,i,q,r,hk,h=>by
  have hi:i < (l.getD []).length:=by omega
  have hx:(l.getD [])[i]?=some (l.getD [])[i]:=List.getElem?_eq_getElem hi
  rw [z6 hx] at h
  simp only [qiu] at h
  obtain ⟨q1,h1,h2⟩:=qa h
  have hd:decide ((i:Int) < ((l.getD []).length:Int))=true:=decide_eq_true (by omega)
  have hw:qg .i64 ((i:Int) + 1)=((i + 1:Nat):Int):=by
   have:i≤4:=by omega
   match i,this with
   | 0,_=>rfl
   | 1,_=>rfl
   | 2,_=>rfl
   | 3,_=>rfl
   | 4,_=>rfl
  rw [qch (s':=(((i + 1:Nat):Int),q1)) (by simp only [qv4,hd,cond_true,qhy,hx,qd,h1,hw])]
  exact q7c hl (k:=k) (i:=i + 1) (by omega) h2
section
variable {l:Option (List GEl)} {w:Int} {m m1:zk} {d d1:qz}
theorem jou (hl:(l.getD []).length≤5) (h:qiu w (l.getD []) (m,d)=some (m1,d1)):∃ t,jl pr (X pr) 233 [.fn (.yield 4) [] [],.vptr (sl 3 vel l),.vptr (.int .i64 w)] (k8 l w m d none [])=some (.tup [],false,k8 l w m1 d1 none t):=by
 have h0:=q7c (k:=(l.getD []).length) (i:=0) hl (by omega) (by rw [List.drop_zero]; exact h)
 have h1:X pr (.loop qmm) (qqy w l (0,m,d))=some (qus w l (((l.getD []).length:Int),m1,d1)):=zi jrs (fun d=>by intro hh; cases hh) h0
 rw [qf (show pr.fns 233=some c233 from rfl) (by simp)]
 have hm:pr.maps 193=some zf:=rfl
 simp only [qqy,qus,k8] at h1 ⊢
 simp only [go_sem,seval,c233,h1,hm]
 exact ⟨_,rfl⟩
theorem q42 (hl:(l.getD []).length≤5) (h:qiu w (l.getD []) (m,d)=some (m1,d1)):X pr qit ⟨qc7 l w,qnj m d⟩=some (.normal,⟨qc7 l w,qnj m1 d1⟩):=by
 obtain ⟨t,h1⟩:=jou hl h
 have hb:∀ m d,jz 4 (qnj m d)=true:=by
  intro m d
  simp only [qnj,jz,List.all_cons,List.all_nil,y9,mcs,gcs,z8,z2]
  rfl
 rw [q4u,qr6]
 unfold qa8
 have hn:(zr qgr && zr qfa)=true:=rfl
 have he:qk (qc7 l w) (.tmp 18)=some (.fn (.func 233) [] [.vptr (sl 3 vel l),.vptr (.int .i64 w)]):=rfl
 have hl:∀ m d,(qnj m d).length=4:=fun _ _=>rfl
 have hap:qnj m d++[.loop ⟨qc7 l w,[19,20],qgr,qfa,none⟩]=k8 l w m d none []:=rfl
 have hg:yf (k8 l w m1 d1 none t) 4=some (.loop ⟨qc7 l w,[19,20],qgr,qfa,none⟩):=rfl
 have ht:(k8 l w m1 d1 none t).take 4=qnj m1 d1:=rfl
 simp only [hn,cond_true,he,hl,List.nil_append,List.cons_append,hap,h1,hg,ht,hb]
end
def q10:ACode:=pcL c173.body
def q2t:ACode:=pcL (pcR c173.body)
def q17:ACode:=pcL (pcL (pcR (pcR c173.body)))
def q18:ACode:=pcR (pcR (pcR c173.body))
noncomputable def f173 (l:Option (List GEl)) (w:Int):Option (zk × qz):=cond (decide ((l.getD []).length≤5)) (qiu w (l.getD []) (⟨1,0,0,0,0,0,1,0⟩,⟨1,0⟩)) none
theorem jrh {l:Option (List GEl)} {w:Int}:qc pr (X pr) 205 [sl 3 vel l,.int .i64 w]=some (.fn (.func 233) [] [.vptr (sl 3 vel l),.vptr (.int .i64 w)],false):=by
 have this:∃ hh,jl pr (X pr) 205 [sl 3 vel l,.int .i64 w] []=some (.fn (.func 233) [] [.vptr (sl 3 vel l),.vptr (.int .i64 w)],false,hh):=by
  rw [qf (show pr.fns 205=some c205 from rfl) (by simp)]
  simp only [go_sem,seval,c205]
  exact ⟨_,rfl⟩
 obtain ⟨hh,this⟩:=this
 have hb:Abs.below 0 (sl 3 vel l)=true:=by simp only [go_sem,seval]
 have hp:Abs.below 0 (.fn (.func 233) [] [.vptr (sl 3 vel l),.vptr (.int .i64 w)])=true:=by
  show (true && (Abs.below 0 (sl 3 vel l) && true))=true
  rw [hb]; rfl
 exact qc9 rfl this (by first | rfl | simp only [go_sem,seval]) (by first | exact hp | simp only [go_sem,seval])
theorem jq4 {l:Option (List GEl)} {w:Int} {r} (h:f173 l w=some r):qc pr (X pr) 173 [sl 3 vel l,.int .i64 w]=some (.tup [.agg [.int .i64 r.1.m0,.int .i64 r.1.m1,.int .i64 r.1.m2,.int .i64 r.1.m3,.int .i64 r.1.m4,.int .i64 r.1.m5,.int .i64 r.1.m6,.int .i64 r.1.m7],.agg [.int .i64 r.2.num,.int .i64 r.2.den]],false):=by
 unfold f173 at h
 rcases qb h with ⟨h1,k⟩ | ⟨h1,k⟩
 ·obtain ⟨m,d⟩:=r
  have hx:=q42 (by simpa using h1) k
  have g205:=jrh (l:=l) (w:=w)
  have this:∃ hh,jl pr (X pr) 173 [sl 3 vel l,.int .i64 w] []=some (.tup [.agg [.int .i64 m.m0,.int .i64 m.m1,.int .i64 m.m2,.int .i64 m.m3,.int .i64 m.m4,.int .i64 m.m5,.int .i64 m.m6,.int .i64 m.m7],.agg [.int .i64 d.num,.int .i64 d.den]],false,hh):=by
   rw [qf (show pr.fns 173=some ⟨34,.seq q10 (.seq q2t (.seq (.seq q17 (.block 0 qit)) q18)),[.cell 4 true 8,.cell 5 true 2]⟩ from rfl) (by simp)]
   simp only [qc7,qnj,mcs,gcs,z8,z2] at hx
   simp only [go_sem,seval,q10,q2t,q17,q18,pcL,pcR,c173,g205,hx]
   exact ⟨_,rfl⟩
  obtain ⟨hh,this⟩:=this
  exact qc9 rfl this (by first | rfl | simp only [go_sem,seval]) (by first | rfl | simp only [go_sem,seval])
 ·cases k
end Go.Z
