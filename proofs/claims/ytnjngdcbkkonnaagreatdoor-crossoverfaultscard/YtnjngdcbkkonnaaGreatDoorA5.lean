/-
  Chapter 4: levels and sums: functions that mirror the runs, and the runs (printed by walk.py).
-/
import Derived.Test.YtnjngdcbkkonnaaGreatDoorA4
set_option linter.unusedVariables false
set_option linter.unusedSimpArgs false
set_option maxRecDepth 100000
set_option maxHeartbeats 4000000
namespace Go.Z
open Go Go.Abs
noncomputable def f132 (a0:zk) (a1:qz) (c0_0:Int) (c0_1:Int):Option ((qz × Int)):=
 cond (decide (a0.m0=0) && decide (a0.m1=0))
  (some (⟨0,0⟩,17))
  (qd (f175 a1) fun v2=>
  qd (f175 (⟨a0.m0,a0.m1⟩)) fun v4=>
  qd (f174 v2 v4) fun v6=>
  some (v6,0))
theorem jsk {a0:zk} {a1:qz} {c0_0:Int} {c0_1:Int} {r} (h:f132 a0 a1 c0_0 c0_1=some r):jl pr (X pr) 132 [.agg [.int .i64 a0.m0,.int .i64 a0.m1,.int .i64 a0.m2,.int .i64 a0.m3,.int .i64 a0.m4,.int .i64 a0.m5,.int .i64 a0.m6,.int .i64 a0.m7],.agg [.int .i64 a1.num,.int .i64 a1.den]] [.cells [(.int .i64 c0_0,false),(.int .i64 c0_1,false)]]=some (.tup [.agg [.int .i64 r.1.num,.int .i64 r.1.den],.int .i64 r.2],false,[.cells [(.int .i64 c0_0,false),(.int .i64 c0_1,false)],.cells [(.int .i64 r.1.num,false),(.int .i64 r.1.den,false)]]):=by
 unfold f132 at h
 rcases qb h with ⟨h1,h⟩ | ⟨h1,h⟩
 ·have hr:(⟨0,0⟩,17)=r:=Option.some.inj h
  subst hr
  rw [qf (show pr.fns 132=some c132 from rfl) (by simp)]
  simp only [go_sem,seval,c132,h1] <;> rfl
 ·obtain ⟨v2,h3,h⟩:=qa h
  have wh3:qc pr (X pr) 175 [.agg [.int .i64 a1.num,.int .i64 a1.den]]=some (.int .i64 v2,false):=jdg h3
  obtain ⟨v4,h5,h⟩:=qa h
  have wh5:qc pr (X pr) 175 [.agg [.int .i64 a0.m0,.int .i64 a0.m1]]=some (.int .i64 v4,false):=jdg h5
  obtain ⟨v6,h7,h⟩:=qa h
  have hr:(v6,0)=r:=Option.some.inj h
  subst hr
  rw [qf (show pr.fns 132=some c132 from rfl) (by simp)]
  simp only [go_sem,seval,c132,h1,wh3,wh5,jrx h7] <;> rfl
noncomputable def f131 (a0:Option (List GEl)) (a1:Int):Option (qz × Int):=
 qd (f158 a0) fun v1=>
 qd (f172 a1) fun v3=>
 qd (f171 (some [v1,v3])) fun v5=>
 cond (decide (v5=0))
  (qd (f173 a0 a1) fun v8=>
  qd (f132 v8.1 v8.2 0 0) fun v10=>
  some (v10.1,v10.2))
  (some (⟨0,0⟩,v5))
theorem jp4 {a0:Option (List GEl)} {a1:Int} {r} (h:f131 a0 a1=some r):qc pr (X pr) 131 [sl 3 vel a0,.int .i64 a1,.fn (.func 132) [] []]=some (.tup [.agg [.int .i64 r.1.num,.int .i64 r.1.den],.int .i64 r.2],false):=by
 unfold f131 at h
 obtain ⟨v1,h2,h⟩:=qa h
 obtain ⟨v3,h4,h⟩:=qa h
 obtain ⟨v5,h6,h⟩:=qa h
 have wh6:qc pr (X pr) 171 [.list false 1 [.int .i64 v1,.int .i64 v3]]=some (.int .i64 v5,false):=qnx h6
 rcases qb h with ⟨h7,h⟩ | ⟨h7,h⟩
 ·obtain ⟨v8,h9,h⟩:=qa h
  obtain ⟨v10,h11,h⟩:=qa h
  have wh11:jl pr (X pr) 132 [.agg [.int .i64 v8.1.m0,.int .i64 v8.1.m1,.int .i64 v8.1.m2,.int .i64 v8.1.m3,.int .i64 v8.1.m4,.int .i64 v8.1.m5,.int .i64 v8.1.m6,.int .i64 v8.1.m7],.agg [.int .i64 v8.2.num,.int .i64 v8.2.den]] [.cells [(.int .i64 0,false),(.int .i64 0,false)]]=some (.tup [.agg [.int .i64 v10.1.num,.int .i64 v10.1.den],.int .i64 v10.2],false,[.cells [(.int .i64 0,false),(.int .i64 0,false)],.cells [(.int .i64 v10.1.num,false),(.int .i64 v10.1.den,false)]]):=jsk h11
  have hr:(v10.1,v10.2)=r:=Option.some.inj h
  subst hr
  refine qp rfl ?_ (fun _=>by first | rfl | simp only [go_sem,seval]) (by first | rfl | simp only [go_sem,seval])
  rw [qf (show pr.fns 131=some c131 from rfl) (by simp)]
  simp only [go_sem,seval,c131,qzw h2,jd1 h4,wh6,h7,jq4 h9,wh11]
  exact ⟨_,rfl⟩
 ·have hr:(⟨0,0⟩,v5)=r:=Option.some.inj h
  subst hr
  refine qp rfl ?_ (fun _=>by first | rfl | simp only [go_sem,seval]) (by first | rfl | simp only [go_sem,seval])
  rw [qf (show pr.fns 131=some c131 from rfl) (by simp)]
  simp only [go_sem,seval,c131,qzw h2,jd1 h4,wh6,h7]
  exact ⟨_,rfl⟩
noncomputable def f57 (a0:Option (List GEl)) (a1:Int):Option (qz × Int):=
 qd (f131 a0 a1) fun v1=>
 some (v1.1,v1.2)
theorem W57 {a0:Option (List GEl)} {a1:Int} {r} (h:f57 a0 a1=some r):qc pr (X pr) 57 [sl 3 vel a0,.int .i64 a1]=some (.tup [.agg [.int .i64 r.1.num,.int .i64 r.1.den],.int .i64 r.2],false):=by
 unfold f57 at h
 obtain ⟨v1,h2,h⟩:=qa h
 have wh2:qc pr (X pr) 131 [sl 3 vel a0,.int .i64 a1,.fn (.func 132) [] []]=some (.tup [.agg [.int .i64 v1.1.num,.int .i64 v1.1.den],.int .i64 v1.2],false):=jp4 h2
 have hr:(v1.1,v1.2)=r:=Option.some.inj h
 subst hr
 refine qp rfl ?_ (fun _=>by first | rfl | simp only [go_sem,seval]) (by first | rfl | simp only [go_sem,seval])
 rw [qf (show pr.fns 57=some c57 from rfl) (by simp)]
 simp only [go_sem,seval,c57,wh2]
 exact ⟨_,rfl⟩
noncomputable def f165 (a0:Int) (a1:Int):Option (Int × Int):=
 qd (qm4 .u64 a0 32) fun v1=>
 qd (qm4 .u64 a1 32) fun v3=>
 qd (qm4 .u64 (qg .u64 ((qkx .and .u64 a0 4294967295) * (qkx .and .u64 a1 4294967295))) 32) fun v5=>
 qd (qm4 .u64 (qg .u64 ((qg .u64 (v1 * (qkx .and .u64 a1 4294967295))) + v5)) 32) fun v7=>
 qd (qm4 .u64 (qg .u64 ((qkx .and .u64 (qg .u64 ((qg .u64 (v1 * (qkx .and .u64 a1 4294967295))) + v5)) 4294967295) + (qg .u64 ((qkx .and .u64 a0 4294967295) * v3)))) 32) fun v9=>
 some (qg .u64 ((qg .u64 ((qg .u64 (v1 * v3)) + v7)) + v9),qg .u64 (a0 * a1))
theorem jet {a0:Int} {a1:Int} {r} (h:f165 a0 a1=some r):qc pr (X pr) 165 [.int .u64 a0,.int .u64 a1]=some (.tup [.int .u64 r.1,.int .u64 r.2],false):=by
 unfold f165 at h
 obtain ⟨v1,h2,h⟩:=qa h
 obtain ⟨v3,h4,h⟩:=qa h
 obtain ⟨v5,h6,h⟩:=qa h
 obtain ⟨v7,h8,h⟩:=qa h
 obtain ⟨v9,h10,h⟩:=qa h
 have hr:(qg .u64 ((qg .u64 ((qg .u64 (v1 * v3)) + v7)) + v9),qg .u64 (a0 * a1))=r:=Option.some.inj h
 subst hr
 refine qp rfl ?_ (fun _=>by first | rfl | simp only [go_sem,seval]) (by first | rfl | simp only [go_sem,seval])
 rw [qf (show pr.fns 165=some c165 from rfl) (by simp)]
 simp only [go_sem,seval,c165,qjn h2,qjn h4,qjn h6,qjn h8,qjn h10]
 exact ⟨_,rfl⟩
noncomputable def f127 (a0:qz) (a1:qz):Option Bool:=
 qd (f165 (qg .u64 a0.num) (qg .u64 a1.den)) fun v1=>
 qd (f165 (qg .u64 a1.num) (qg .u64 a0.den)) fun v3=>
 cond (decide (v3.1 < v1.1))
  (some true)
  (cond (decide (v1.1=v3.1))
   (some (decide (v3.2 < v1.2)))
   (some false))
theorem q4x {a0:qz} {a1:qz} {r} (h:f127 a0 a1=some r):qc pr (X pr) 127 [.agg [.int .i64 a0.num,.int .i64 a0.den],.agg [.int .i64 a1.num,.int .i64 a1.den]]=some (.bool r,false):=by
 unfold f127 at h
 obtain ⟨v1,h2,h⟩:=qa h
 have wh2:qc pr (X pr) 165 [.int .u64 (qg .u64 a0.num),.int .u64 (qg .u64 a1.den)]=some (.tup [.int .u64 v1.1,.int .u64 v1.2],false):=jet h2
 obtain ⟨v3,h4,h⟩:=qa h
 have wh4:qc pr (X pr) 165 [.int .u64 (qg .u64 a1.num),.int .u64 (qg .u64 a0.den)]=some (.tup [.int .u64 v3.1,.int .u64 v3.2],false):=jet h4
 rcases qb h with ⟨h5,h⟩ | ⟨h5,h⟩
 ·have hr:true=r:=Option.some.inj h
  subst hr
  refine qp rfl ?_ (fun _=>by first | rfl | simp only [go_sem,seval]) (by first | rfl | simp only [go_sem,seval])
  rw [qf (show pr.fns 127=some c127 from rfl) (by simp)]
  simp only [go_sem,seval,c127,wh2,wh4,h5]
  exact ⟨_,rfl⟩
 ·rcases qb h with ⟨h6,h⟩ | ⟨h6,h⟩
  ·have hr:decide (v3.2 < v1.2)=r:=Option.some.inj h
   subst hr
   refine qp rfl ?_ (fun _=>by first | rfl | simp only [go_sem,seval]) (by first | rfl | simp only [go_sem,seval])
   rw [qf (show pr.fns 127=some c127 from rfl) (by simp)]
   simp only [go_sem,seval,c127,wh2,wh4,h5,h6]
   exact ⟨_,rfl⟩
  ·have hr:false=r:=Option.some.inj h
   subst hr
   refine qp rfl ?_ (fun _=>by first | rfl | simp only [go_sem,seval]) (by first | rfl | simp only [go_sem,seval])
   rw [qf (show pr.fns 127=some c127 from rfl) (by simp)]
   simp only [go_sem,seval,c127,wh2,wh4,h5,h6]
   exact ⟨_,rfl⟩
noncomputable def qkj (a0:Option (List GEl)) (a1:Int) (s0:Int × Int × Int × Int × Int × Int × Int × Int × Int):Option ((Int × Int × Int × Int × Int × Int × Int × Int × Int) ⊕ ((Int × Int × Int × Int × Int × Int × Int × Int × Int))):=
 cond (decide (s0.1 < ((a0.getD []).length:Int)))
  (qd (j7 (a0.getD []) s0.1) fun v24=>
  qd (f167 v24 a1) fun v26=>
  qd (f170 v24.kind v26) fun v28=>
  qd (f169 (⟨s0.2.1,s0.2.2.1,s0.2.2.2.1,s0.2.2.2.2.1,s0.2.2.2.2.2.1,s0.2.2.2.2.2.2.1,s0.2.2.2.2.2.2.2.1,s0.2.2.2.2.2.2.2.2⟩) v28) fun v30=>
  some (.inl (qg .i64 (s0.1 + 1),v30.m0,v30.m1,v30.m2,v30.m3,v30.m4,v30.m5,v30.m6,v30.m7)))
  (some (.inr (s0.1,s0.2.1,s0.2.2.1,s0.2.2.2.1,s0.2.2.2.2.1,s0.2.2.2.2.2.1,s0.2.2.2.2.2.2.1,s0.2.2.2.2.2.2.2.1,s0.2.2.2.2.2.2.2.2)))
def qon (a0:Option (List GEl)) (a1:Int) (s0:Int × Int × Int × Int × Int × Int × Int × Int × Int):ASt:=⟨[(0,sl 3 vel a0,false),(1,.int .i64 a1,false),(4,.ptr 0 0,false),(5,.ptr 1 0,false),(6,.int .i64 s0.1,false)],[.cells [(.int .i64 0,false),(.int .i64 0,false),(.int .i64 0,false),(.int .i64 0,false),(.int .i64 0,false),(.int .i64 0,false),(.int .i64 0,false),(.int .i64 0,false)],.cells [(.int .i64 s0.2.1,false),(.int .i64 s0.2.2.1,false),(.int .i64 s0.2.2.2.1,false),(.int .i64 s0.2.2.2.2.1,false),(.int .i64 s0.2.2.2.2.2.1,false),(.int .i64 s0.2.2.2.2.2.2.1,false),(.int .i64 s0.2.2.2.2.2.2.2.1,false),(.int .i64 s0.2.2.2.2.2.2.2.2,false)]]⟩
def qs3 (a0:Option (List GEl)) (a1:Int) (d:(Int × Int × Int × Int × Int × Int × Int × Int × Int)):jg × ASt:=(.exit 0,⟨[(0,sl 3 vel a0,false),(1,.int .i64 a1,false),(4,.ptr 0 0,false),(5,.ptr 1 0,false),(6,.int .i64 d.1,false),(15,.bool false,false)],[.cells [(.int .i64 0,false),(.int .i64 0,false),(.int .i64 0,false),(.int .i64 0,false),(.int .i64 0,false),(.int .i64 0,false),(.int .i64 0,false),(.int .i64 0,false)],.cells [(.int .i64 d.2.1,false),(.int .i64 d.2.2.1,false),(.int .i64 d.2.2.2.1,false),(.int .i64 d.2.2.2.2.1,false),(.int .i64 d.2.2.2.2.2.1,false),(.int .i64 d.2.2.2.2.2.2.1,false),(.int .i64 d.2.2.2.2.2.2.2.1,false),(.int .i64 d.2.2.2.2.2.2.2.2,false)]]⟩)
theorem jdd (a0:Option (List GEl)) (a1:Int) (s0:Int × Int × Int × Int × Int × Int × Int × Int × Int) (r) (h:qkj a0 a1 s0=some r):zd pr qj9 (qon a0 a1) (qs3 a0 a1) s0 r:=by
 unfold qkj at h
 rcases qb h with ⟨h23,h⟩ | ⟨h23,h⟩
 ·obtain ⟨v24,h25,h⟩:=qa h
  obtain ⟨v26,h27,h⟩:=qa h
  have wh27:qc pr (X pr) 167 [.agg [.str v24.kind,.int .i64 v24.a,.int .i64 v24.b],.int .i64 a1]=some (.agg [.int .i64 v26.num,.int .i64 v26.den],false):=jem h27
  obtain ⟨v28,h29,h⟩:=qa h
  have wh29:qc pr (X pr) 170 [.str v24.kind,.agg [.int .i64 v26.num,.int .i64 v26.den]]=some (.agg [.int .i64 v28.m0,.int .i64 v28.m1,.int .i64 v28.m2,.int .i64 v28.m3,.int .i64 v28.m4,.int .i64 v28.m5,.int .i64 v28.m6,.int .i64 v28.m7],false):=jrd h29
  obtain ⟨v30,h31,h⟩:=qa h
  have wh31:qc pr (X pr) 169 [.agg [.int .i64 s0.2.1,.int .i64 s0.2.2.1,.int .i64 s0.2.2.2.1,.int .i64 s0.2.2.2.2.1,.int .i64 s0.2.2.2.2.2.1,.int .i64 s0.2.2.2.2.2.2.1,.int .i64 s0.2.2.2.2.2.2.2.1,.int .i64 s0.2.2.2.2.2.2.2.2],.agg [.int .i64 v28.m0,.int .i64 v28.m1,.int .i64 v28.m2,.int .i64 v28.m3,.int .i64 v28.m4,.int .i64 v28.m5,.int .i64 v28.m6,.int .i64 v28.m7]]=some (.agg [.int .i64 v30.m0,.int .i64 v30.m1,.int .i64 v30.m2,.int .i64 v30.m3,.int .i64 v30.m4,.int .i64 v30.m5,.int .i64 v30.m6,.int .i64 v30.m7],false):=jo5 h31
  cases h
  exact qo (st':=⟨[(0,sl 3 vel a0,false),(1,.int .i64 a1,false),(4,.ptr 0 0,false),(5,.ptr 1 0,false),(6,.int .i64 (qg .i64 (s0.1 + 1)),false)],[.cells [(.int .i64 0,false),(.int .i64 0,false),(.int .i64 0,false),(.int .i64 0,false),(.int .i64 0,false),(.int .i64 0,false),(.int .i64 0,false),(.int .i64 0,false)],.cells [(.int .i64 v30.m0,false),(.int .i64 v30.m1,false),(.int .i64 v30.m2,false),(.int .i64 v30.m3,false),(.int .i64 v30.m4,false),(.int .i64 v30.m5,false),(.int .i64 v30.m6,false),(.int .i64 v30.m7,false)]]⟩) (by simp only [go_sem,seval,qj9,qon,h23,qw h25,wh27,wh29,wh31] <;> rfl) (jc (Nat.le_refl _))
 ·cases h
  exact qj (by simp only [go_sem,seval,qj9,qon,h23,qs3] <;> rfl)
theorem jcq (a0:Option (List GEl)) (a1:Int) {s0:Int × Int × Int × Int × Int × Int × Int × Int × Int} {d} (h:itO (qkj a0 a1) s0=some d):X pr (.loop qj9) (qon a0 a1 s0)=some (qs3 a0 a1 d):=zi (jdd a0 a1) (fun d hh=>by cases hh) h
noncomputable def f129 (a0:Option (List GEl)) (a1:Int):Option zk:=
 qd (f166) fun v1=>
 qd (f168) fun v3=>
 qd (itO (qkj a0 a1) (0,v1.num,v1.den,v3.num,v3.den,v3.num,v3.den,v1.num,v1.den)) fun d32=>
 some (⟨d32.2.1,d32.2.2.1,d32.2.2.2.1,d32.2.2.2.2.1,d32.2.2.2.2.2.1,d32.2.2.2.2.2.2.1,d32.2.2.2.2.2.2.2.1,d32.2.2.2.2.2.2.2.2⟩)
theorem jse {a0:Option (List GEl)} {a1:Int} {r} (h:f129 a0 a1=some r):qc pr (X pr) 129 [sl 3 vel a0,.int .i64 a1]=some (.agg [.int .i64 r.m0,.int .i64 r.m1,.int .i64 r.m2,.int .i64 r.m3,.int .i64 r.m4,.int .i64 r.m5,.int .i64 r.m6,.int .i64 r.m7],false):=by
 unfold f129 at h
 obtain ⟨v1,h2,h⟩:=qa h
 obtain ⟨v3,h4,h⟩:=qa h
 obtain ⟨d32,h33,h⟩:=qa h
 have wh33:X pr (.loop qj9) ⟨[(0,sl 3 vel a0,false),(1,.int .i64 a1,false),(4,.ptr 0 0,false),(5,.ptr 1 0,false),(6,.int .i64 0,false)],[.cells [(.int .i64 0,false),(.int .i64 0,false),(.int .i64 0,false),(.int .i64 0,false),(.int .i64 0,false),(.int .i64 0,false),(.int .i64 0,false),(.int .i64 0,false)],.cells [(.int .i64 v1.num,false),(.int .i64 v1.den,false),(.int .i64 v3.num,false),(.int .i64 v3.den,false),(.int .i64 v3.num,false),(.int .i64 v3.den,false),(.int .i64 v1.num,false),(.int .i64 v1.den,false)]]⟩=some (.exit 0,⟨[(0,sl 3 vel a0,false),(1,.int .i64 a1,false),(4,.ptr 0 0,false),(5,.ptr 1 0,false),(6,.int .i64 d32.1,false),(15,.bool false,false)],[.cells [(.int .i64 0,false),(.int .i64 0,false),(.int .i64 0,false),(.int .i64 0,false),(.int .i64 0,false),(.int .i64 0,false),(.int .i64 0,false),(.int .i64 0,false)],.cells [(.int .i64 d32.2.1,false),(.int .i64 d32.2.2.1,false),(.int .i64 d32.2.2.2.1,false),(.int .i64 d32.2.2.2.2.1,false),(.int .i64 d32.2.2.2.2.2.1,false),(.int .i64 d32.2.2.2.2.2.2.1,false),(.int .i64 d32.2.2.2.2.2.2.2.1,false),(.int .i64 d32.2.2.2.2.2.2.2.2,false)]]⟩):=jcq a0 a1 h33
 have hr:⟨d32.2.1,d32.2.2.1,d32.2.2.2.1,d32.2.2.2.2.1,d32.2.2.2.2.2.1,d32.2.2.2.2.2.2.1,d32.2.2.2.2.2.2.2.1,d32.2.2.2.2.2.2.2.2⟩=r:=Option.some.inj h
 subst hr
 refine qp rfl ?_ (fun _=>by first | rfl | simp only [go_sem,seval]) (by first | rfl | simp only [go_sem,seval])
 rw [qf (show pr.fns 129=some c129 from rfl) (by simp)]
 simp only [go_sem,seval,c129,qr5 h2,qpk h4,wh33]
 exact ⟨_,rfl⟩
noncomputable def qkb (a0:Option (List GEl)) (a1:Int) (s0:Int × Int × Int):Option ((Int × Int × Int) ⊕ ((Int × Int × Int))):=
 cond (decide (s0.1 < ((a0.getD []).length:Int)))
  (qd (j7 (a0.getD []) s0.1) fun v24=>
  qd (f55 v24.kind) fun v26=>
  cond v26
   (qd (f167 v24 a1) fun v29=>
   qd (f63 (⟨s0.2.1,s0.2.2⟩) v29) fun v31=>
   some (.inl (qg .i64 (s0.1 + 1),v31.num,v31.den)))
   (some (.inl (qg .i64 (s0.1 + 1),s0.2.1,s0.2.2))))
  (some (.inr (s0.1,s0.2.1,s0.2.2)))
def qj6 (a0:Option (List GEl)) (a1:Int) (s0:Int × Int × Int):ASt:=⟨[(0,sl 3 vel a0,false),(1,.int .i64 a1,false),(4,.ptr 0 0,false),(5,.ptr 1 0,false),(6,.int .i64 s0.1,false)],[.cells [(.int .i64 0,false),(.int .i64 0,false)],.cells [(.int .i64 s0.2.1,false),(.int .i64 s0.2.2,false)]]⟩
def qrw (a0:Option (List GEl)) (a1:Int) (d:(Int × Int × Int)):jg × ASt:=(.exit 0,⟨[(0,sl 3 vel a0,false),(1,.int .i64 a1,false),(4,.ptr 0 0,false),(5,.ptr 1 0,false),(6,.int .i64 d.1,false),(11,.bool false,false)],[.cells [(.int .i64 0,false),(.int .i64 0,false)],.cells [(.int .i64 d.2.1,false),(.int .i64 d.2.2,false)]]⟩)
theorem jdf (a0:Option (List GEl)) (a1:Int) (s0:Int × Int × Int) (r) (h:qkb a0 a1 s0=some r):zd pr qhu (qj6 a0 a1) (qrw a0 a1) s0 r:=by
 unfold qkb at h
 rcases qb h with ⟨h23,h⟩ | ⟨h23,h⟩
 ·obtain ⟨v24,h25,h⟩:=qa h
  obtain ⟨v26,h27,h⟩:=qa h
  have wh27:qc pr (X pr) 55 [.str v24.kind]=some (.bool v26,false):=W55 h27
  rcases qb h with ⟨h28,h⟩ | ⟨h28,h⟩
  ·obtain ⟨v29,h30,h⟩:=qa h
   have wh30:qc pr (X pr) 167 [.agg [.str v24.kind,.int .i64 v24.a,.int .i64 v24.b],.int .i64 a1]=some (.agg [.int .i64 v29.num,.int .i64 v29.den],false):=jem h30
   obtain ⟨v31,h32,h⟩:=qa h
   have wh32:qc pr (X pr) 63 [.agg [.int .i64 s0.2.1,.int .i64 s0.2.2],.agg [.int .i64 v29.num,.int .i64 v29.den]]=some (.agg [.int .i64 v31.num,.int .i64 v31.den],false):=W63 h32
   cases h
   exact qo (st':=⟨[(0,sl 3 vel a0,false),(1,.int .i64 a1,false),(4,.ptr 0 0,false),(5,.ptr 1 0,false),(6,.int .i64 (qg .i64 (s0.1 + 1)),false)],[.cells [(.int .i64 0,false),(.int .i64 0,false)],.cells [(.int .i64 v31.num,false),(.int .i64 v31.den,false)]]⟩) (by simp only [go_sem,seval,qhu,qj6,h23,qw h25,wh27,h28,wh30,wh32] <;> rfl) (jc (Nat.le_refl _))
  ·cases h
   exact qo (st':=⟨[(0,sl 3 vel a0,false),(1,.int .i64 a1,false),(4,.ptr 0 0,false),(5,.ptr 1 0,false),(6,.int .i64 (qg .i64 (s0.1 + 1)),false)],[.cells [(.int .i64 0,false),(.int .i64 0,false)],.cells [(.int .i64 s0.2.1,false),(.int .i64 s0.2.2,false)]]⟩) (by simp only [go_sem,seval,qhu,qj6,h23,qw h25,wh27,h28] <;> rfl) (jc (Nat.le_refl _))
 ·cases h
  exact qj (by simp only [go_sem,seval,qhu,qj6,h23,qrw] <;> rfl)
theorem jcd (a0:Option (List GEl)) (a1:Int) {s0:Int × Int × Int} {d} (h:itO (qkb a0 a1) s0=some d):X pr (.loop qhu) (qj6 a0 a1 s0)=some (qrw a0 a1 d):=zi (jdf a0 a1) (fun d hh=>by cases hh) h
noncomputable def f128 (a0:Option (List GEl)) (a1:Int):Option qz:=
 qd (f166) fun v1=>
 qd (itO (qkb a0 a1) (0,v1.num,v1.den)) fun d33=>
 some (⟨d33.2.1,d33.2.2⟩)
theorem jte {a0:Option (List GEl)} {a1:Int} {r} (h:f128 a0 a1=some r):qc pr (X pr) 128 [sl 3 vel a0,.int .i64 a1]=some (.agg [.int .i64 r.num,.int .i64 r.den],false):=by
 unfold f128 at h
 obtain ⟨v1,h2,h⟩:=qa h
 obtain ⟨d33,h34,h⟩:=qa h
 have wh34:X pr (.loop qhu) ⟨[(0,sl 3 vel a0,false),(1,.int .i64 a1,false),(4,.ptr 0 0,false),(5,.ptr 1 0,false),(6,.int .i64 0,false)],[.cells [(.int .i64 0,false),(.int .i64 0,false)],.cells [(.int .i64 v1.num,false),(.int .i64 v1.den,false)]]⟩=some (.exit 0,⟨[(0,sl 3 vel a0,false),(1,.int .i64 a1,false),(4,.ptr 0 0,false),(5,.ptr 1 0,false),(6,.int .i64 d33.1,false),(11,.bool false,false)],[.cells [(.int .i64 0,false),(.int .i64 0,false)],.cells [(.int .i64 d33.2.1,false),(.int .i64 d33.2.2,false)]]⟩):=jcd a0 a1 h34
 have hr:⟨d33.2.1,d33.2.2⟩=r:=Option.some.inj h
 subst hr
 refine qp rfl ?_ (fun _=>by first | rfl | simp only [go_sem,seval]) (by first | rfl | simp only [go_sem,seval])
 rw [qf (show pr.fns 128=some c128 from rfl) (by simp)]
 simp only [go_sem,seval,c128,qr5 h2,wh34]
 exact ⟨_,rfl⟩
noncomputable def F58 (rec:qz→qz→Option Bool) (a0:qz) (a1:qz):Option Bool:=
 qd (qdx .i64 a0.num a0.den) fun v1=>
 qd (qdx .i64 a1.num a1.den) fun v3=>
 cond (decide (v1=v3))
  (qd (qh7 a0.num a0.den) fun v6=>
  qd (qh7 a1.num a1.den) fun v8=>
  cond (decide (v6=0))
   (some (!decide (v8=0)))
   (cond (decide (v8=0))
    (some false)
    (qd (rec (⟨a1.den,v8⟩) (⟨a0.den,v6⟩)) fun v12=>
    some v12)))
  (some (decide (v1 < v3)))
theorem joz {rec:qz→qz→Option Bool} (hrec:∀ {a0:qz} {a1:qz} {r},rec a0 a1=some r→qc pr (X pr) 58 [.agg [.int .i64 a0.num,.int .i64 a0.den],.agg [.int .i64 a1.num,.int .i64 a1.den]]=some (.bool r,false)) {a0:qz} {a1:qz} {r} (h:F58 rec a0 a1=some r):qc pr (X pr) 58 [.agg [.int .i64 a0.num,.int .i64 a0.den],.agg [.int .i64 a1.num,.int .i64 a1.den]]=some (.bool r,false):=by
 unfold F58 at h
 obtain ⟨v1,h2,h⟩:=qa h
 obtain ⟨v3,h4,h⟩:=qa h
 rcases qb h with ⟨h5,h⟩ | ⟨h5,h⟩
 ·obtain ⟨v6,h7,h⟩:=qa h
  obtain ⟨v8,h9,h⟩:=qa h
  rcases qb h with ⟨h10,h⟩ | ⟨h10,h⟩
  ·have hr:(!decide (v8=0))=r:=Option.some.inj h
   subst hr
   refine qp rfl ?_ (fun _=>by first | rfl | simp only [go_sem,seval]) (by first | rfl | simp only [go_sem,seval])
   rw [qf (show pr.fns 58=some c58 from rfl) (by simp)]
   simp only [go_sem,seval,c58,qaj h2,qaj h4,h5,qcs h7,qcs h9,h10]
   exact ⟨_,rfl⟩
  ·rcases qb h with ⟨h11,h⟩ | ⟨h11,h⟩
   ·have hr:false=r:=Option.some.inj h
    subst hr
    refine qp rfl ?_ (fun _=>by first | rfl | simp only [go_sem,seval]) (by first | rfl | simp only [go_sem,seval])
    rw [qf (show pr.fns 58=some c58 from rfl) (by simp)]
    simp only [go_sem,seval,c58,qaj h2,qaj h4,h5,qcs h7,qcs h9,h10,h11]
    exact ⟨_,rfl⟩
   ·obtain ⟨v12,h13,h⟩:=qa h
    have wh13:qc pr (X pr) 58 [.agg [.int .i64 a1.den,.int .i64 v8],.agg [.int .i64 a0.den,.int .i64 v6]]=some (.bool v12,false):=hrec h13
    have hr:v12=r:=Option.some.inj h
    subst hr
    refine qp rfl ?_ (fun _=>by first | rfl | simp only [go_sem,seval]) (by first | rfl | simp only [go_sem,seval])
    rw [qf (show pr.fns 58=some c58 from rfl) (by simp)]
    simp only [go_sem,seval,c58,qaj h2,qaj h4,h5,qcs h7,qcs h9,h10,h11,wh13]
    exact ⟨_,rfl⟩
 ·have hr:decide (v1 < v3)=r:=Option.some.inj h
  subst hr
  refine qp rfl ?_ (fun _=>by first | rfl | simp only [go_sem,seval]) (by first | rfl | simp only [go_sem,seval])
  rw [qf (show pr.fns 58=some c58 from rfl) (by simp)]
  simp only [go_sem,seval,c58,qaj h2,qaj h4,h5]
  exact ⟨_,rfl⟩
noncomputable def f58:Nat→qz→qz→Option Bool
 | 0=>fun _ _=>none
 | n + 1=>F58 (f58 n)
theorem W58:∀ (n:Nat) {a0:qz} {a1:qz} {r} (h:f58 n a0 a1=some r),qc pr (X pr) 58 [.agg [.int .i64 a0.num,.int .i64 a0.den],.agg [.int .i64 a1.num,.int .i64 a1.den]]=some (.bool r,false)
 | 0,_,_,_,h=>by cases h
 | n + 1,_,_,_,h=>joz (W58 n) h
noncomputable def f199 (a0:qz) (a1:qz):Option (qc8 × Int):=
 qd (f168) fun v1=>
 cond (decide (a1.num=v1.num) && decide (a1.den=v1.den))
  (some (⟨0,0,0,0⟩,17))
  (some (⟨a0.num,a0.den,a1.num,a1.den⟩,0))
theorem jpx {a0:qz} {a1:qz} {r} (h:f199 a0 a1=some r):qc pr (X pr) 199 [.agg [.int .i64 a0.num,.int .i64 a0.den],.agg [.int .i64 a1.num,.int .i64 a1.den]]=some (.tup [.agg [.int .i64 r.1.a,.int .i64 r.1.b,.int .i64 r.1.c,.int .i64 r.1.d],.int .i64 r.2],false):=by
 unfold f199 at h
 obtain ⟨v1,h2,h⟩:=qa h
 rcases qb h with ⟨h3,h⟩ | ⟨h3,h⟩
 ·have hr:(⟨0,0,0,0⟩,17)=r:=Option.some.inj h
  subst hr
  refine qp rfl ?_ (fun _=>by first | rfl | simp only [go_sem,seval]) (by first | rfl | simp only [go_sem,seval])
  rw [qf (show pr.fns 199=some c199 from rfl) (by simp)]
  simp only [go_sem,seval,c199,qpk h2,h3]
  exact ⟨_,rfl⟩
 ·have hr:(⟨a0.num,a0.den,a1.num,a1.den⟩,0)=r:=Option.some.inj h
  subst hr
  refine qp rfl ?_ (fun _=>by first | rfl | simp only [go_sem,seval]) (by first | rfl | simp only [go_sem,seval])
  rw [qf (show pr.fns 199=some c199 from rfl) (by simp)]
  simp only [go_sem,seval,c199,qpk h2,h3]
  exact ⟨_,rfl⟩
noncomputable def f160 (a0:Option (List GEl)) (a1:Int):Option (qc8 × Int):=
 qd (f128 a0 a1) fun v1=>
 qd (f129 a0 a1) fun v3=>
 qd (f199 v1 (⟨v3.m0,v3.m1⟩)) fun v5=>
 some (v5.1,v5.2)
theorem jbw {a0:Option (List GEl)} {a1:Int} {r} (h:f160 a0 a1=some r):qc pr (X pr) 160 [sl 3 vel a0,.int .i64 a1]=some (.tup [.agg [.int .i64 r.1.a,.int .i64 r.1.b,.int .i64 r.1.c,.int .i64 r.1.d],.int .i64 r.2],false):=by
 unfold f160 at h
 obtain ⟨v1,h2,h⟩:=qa h
 obtain ⟨v3,h4,h⟩:=qa h
 obtain ⟨v5,h6,h⟩:=qa h
 have wh6:qc pr (X pr) 199 [.agg [.int .i64 v1.num,.int .i64 v1.den],.agg [.int .i64 v3.m0,.int .i64 v3.m1]]=some (.tup [.agg [.int .i64 v5.1.a,.int .i64 v5.1.b,.int .i64 v5.1.c,.int .i64 v5.1.d],.int .i64 v5.2],false):=jpx h6
 have hr:(v5.1,v5.2)=r:=Option.some.inj h
 subst hr
 refine qp rfl ?_ (fun _=>by first | rfl | simp only [go_sem,seval]) (by first | rfl | simp only [go_sem,seval])
 rw [qf (show pr.fns 160=some c160 from rfl) (by simp)]
 simp only [go_sem,seval,c160,jte h2,jse h4,wh6]
 exact ⟨_,rfl⟩
noncomputable def f113 (a0:Option (List GEl)) (a1:Int):Option (qz × Int):=
 qd (f160 a0 a1) fun v1=>
 cond (decide (v1.2=0))
  (qd (f130 (⟨v1.1.a,v1.1.b⟩)) fun v4=>
  qd (f130 (⟨v1.1.c,v1.1.d⟩)) fun v6=>
  qd (f66 v4 v6) fun v8=>
  some (v8,0))
  (some (⟨0,0⟩,v1.2))
theorem jsf {a0:Option (List GEl)} {a1:Int} {r} (h:f113 a0 a1=some r):qc pr (X pr) 113 [sl 3 vel a0,.int .i64 a1]=some (.tup [.agg [.int .i64 r.1.num,.int .i64 r.1.den],.int .i64 r.2],false):=by
 unfold f113 at h
 obtain ⟨v1,h2,h⟩:=qa h
 rcases qb h with ⟨h3,h⟩ | ⟨h3,h⟩
 ·obtain ⟨v4,h5,h⟩:=qa h
  have wh5:qc pr (X pr) 130 [.agg [.int .i64 v1.1.a,.int .i64 v1.1.b]]=some (.int .i64 v4,false):=jca h5
  obtain ⟨v6,h7,h⟩:=qa h
  have wh7:qc pr (X pr) 130 [.agg [.int .i64 v1.1.c,.int .i64 v1.1.d]]=some (.int .i64 v6,false):=jca h7
  obtain ⟨v8,h9,h⟩:=qa h
  have hr:(v8,0)=r:=Option.some.inj h
  subst hr
  refine qp rfl ?_ (fun _=>by first | rfl | simp only [go_sem,seval]) (by first | rfl | simp only [go_sem,seval])
  rw [qf (show pr.fns 113=some c113 from rfl) (by simp)]
  simp only [go_sem,seval,c113,jbw h2,h3,wh5,wh7,W66 h9]
  exact ⟨_,rfl⟩
 ·have hr:(⟨0,0⟩,v1.2)=r:=Option.some.inj h
  subst hr
  refine qp rfl ?_ (fun _=>by first | rfl | simp only [go_sem,seval]) (by first | rfl | simp only [go_sem,seval])
  rw [qf (show pr.fns 113=some c113 from rfl) (by simp)]
  simp only [go_sem,seval,c113,jbw h2,h3]
  exact ⟨_,rfl⟩
noncomputable def f34 (a0:Int):Option Int:=
 qd (f40 a0 1 8) fun v1=>
 some v1
theorem W34 {a0:Int} {r} (h:f34 a0=some r):qc pr (X pr) 34 [.int .i64 a0]=some (.int .i64 r,false):=by
 unfold f34 at h
 obtain ⟨v1,h2,h⟩:=qa h
 have hr:v1=r:=Option.some.inj h
 subst hr
 refine qp rfl ?_ (fun _=>by first | rfl | simp only [go_sem,seval]) (by first | rfl | simp only [go_sem,seval])
 rw [qf (show pr.fns 34=some c34 from rfl) (by simp)]
 simp only [go_sem,seval,c34,W40 h2]
 exact ⟨_,rfl⟩
noncomputable def f32 (a0:Option (List Int)):Option Int:=
 qd (f100 a0) fun v1=>
 some v1
theorem W32 {a0:Option (List Int)} {r} (h:f32 a0=some r):qc pr (X pr) 32 [sl 1 qu a0]=some (.int .i64 r,false):=by
 unfold f32 at h
 obtain ⟨v1,h2,h⟩:=qa h
 have hr:v1=r:=Option.some.inj h
 subst hr
 refine qp rfl ?_ (fun _=>by first | rfl | simp only [go_sem,seval]) (by first | rfl | simp only [go_sem,seval])
 rw [qf (show pr.fns 32=some c32 from rfl) (by simp)]
 simp only [go_sem,seval,c32,qxi h2]
 exact ⟨_,rfl⟩
noncomputable def qk7 (a0:Option (List GEl)) (s0:Int):Option (Int ⊕ (Unit ⊕ Int)):=
 cond (decide (s0 < ((a0.getD []).length:Int)))
  (qd (j7 (a0.getD []) s0) fun v11=>
  cond (decide (60 < (v11.kind.length:Int)))
   (some (.inr (.inl ())))
   (some (.inl (qg .i64 (s0 + 1)))))
  (some (.inr (.inr s0)))
def qm3 (a0:Option (List GEl)) (s0:Int):ASt:=⟨[(0,sl 3 vel a0,false),(3,.int .i64 s0,false)],[]⟩
def qqr (a0:Option (List GEl)):Unit ⊕ Int→jg × ASt
 | .inl d=>(.ret,⟨[(2,.bool false,false)],[]⟩)
 | .inr d=>(.exit 0,⟨[(0,sl 3 vel a0,false),(3,.int .i64 d,false),(10,.bool false,false)],[]⟩)
theorem jjj (a0:Option (List GEl)) (s0:Int) (r) (h:qk7 a0 s0=some r):zd pr qie (qm3 a0) (qqr a0) s0 r:=by
 unfold qk7 at h
 rcases qb h with ⟨h10,h⟩ | ⟨h10,h⟩
 ·obtain ⟨v11,h12,h⟩:=qa h
  rcases qb h with ⟨h13,h⟩ | ⟨h13,h⟩
  ·cases h
   exact qj (by simp only [go_sem,seval,qie,qm3,h10,qw h12,h13,qqr] <;> rfl)
  ·cases h
   exact qo (st':=⟨[(0,sl 3 vel a0,false),(3,.int .i64 (qg .i64 (s0 + 1)),false)],[]⟩) (by simp only [go_sem,seval,qie,qm3,h10,qw h12,h13] <;> rfl) (jc (Nat.le_refl _))
 ·cases h
  exact qj (by simp only [go_sem,seval,qie,qm3,h10,qqr] <;> rfl)
theorem q7k (a0:Option (List GEl)) {s0:Int} {d} (h:itO (qk7 a0) s0=some d):X pr (.loop qie) (qm3 a0 s0)=some (qqr a0 d):=zi (jjj a0) (fun d=>by rcases d with d|d <;> (intro hh; cases hh)) h
noncomputable def f44 (a0:Option (List GEl)):Option Bool:=
 cond (decide (6 < ((a0.getD []).length:Int)))
  (some false)
  (qd (itO (qk7 a0) 0) fun d14=>match d14 with
   | .inl d16=>
    some false
   | .inr d17=>
    some true)
theorem W44 {a0:Option (List GEl)} {r} (h:f44 a0=some r):qc pr (X pr) 44 [sl 3 vel a0]=some (.bool r,false):=by
 unfold f44 at h
 rcases qb h with ⟨h1,h⟩ | ⟨h1,h⟩
 ·have hr:false=r:=Option.some.inj h
  subst hr
  refine qp rfl ?_ (fun _=>by first | rfl | simp only [go_sem,seval]) (by first | rfl | simp only [go_sem,seval])
  rw [qf (show pr.fns 44=some c44 from rfl) (by simp)]
  simp only [go_sem,seval,c44,h1]
  exact ⟨_,rfl⟩
 ·obtain ⟨d14,h15,h⟩:=qa h
  rcases d14 with d16 | d17
  ·have wh15:X pr (.loop qie) ⟨[(0,sl 3 vel a0,false),(3,.int .i64 0,false)],[]⟩=some (.ret,⟨[(2,.bool false,false)],[]⟩):=q7k a0 h15
   have hr:false=r:=Option.some.inj h
   subst hr
   refine qp rfl ?_ (fun _=>by first | rfl | simp only [go_sem,seval]) (by first | rfl | simp only [go_sem,seval])
   rw [qf (show pr.fns 44=some c44 from rfl) (by simp)]
   simp only [go_sem,seval,c44,h1,wh15]
   exact ⟨_,rfl⟩
  ·have wh15:X pr (.loop qie) ⟨[(0,sl 3 vel a0,false),(3,.int .i64 0,false)],[]⟩=some (.exit 0,⟨[(0,sl 3 vel a0,false),(3,.int .i64 d17,false),(10,.bool false,false)],[]⟩):=q7k a0 h15
   have hr:true=r:=Option.some.inj h
   subst hr
   refine qp rfl ?_ (fun _=>by first | rfl | simp only [go_sem,seval]) (by first | rfl | simp only [go_sem,seval])
   rw [qf (show pr.fns 44=some c44 from rfl) (by simp)]
   simp only [go_sem,seval,c44,h1,wh15]
   exact ⟨_,rfl⟩
noncomputable def qlj (a0:Option (List GEl)) (s0:(Option (List GEl)) × Int × Bool):Option (((Option (List GEl)) × Int × Bool) ⊕ (((Option (List GEl)) × Bool × Int))):=
 cond (decide (s0.2.1 < ((a0.getD []).length:Int)))
  (qd (j7 (a0.getD []) s0.2.1) fun v14=>
  cond s0.2.2
   (qd (apO s0.1 [v14]) fun v17=>
   some (.inl (v17,qg .i64 (s0.2.1 + 1),true)))
   (cond s0.1.isNone
    (qd (apO s0.1 [v14]) fun v20=>
    some (.inl (v20,qg .i64 (s0.2.1 + 1),true)))
    (none)))
  (some (.inr (s0.1,s0.2.2,s0.2.1)))
def qeq (a0:Option (List GEl)) (s0:(Option (List GEl)) × Int × Bool):ASt:=⟨[(3,sl 3 vel s0.1,s0.2.2),(6,sl 3 vel a0,false),(7,.int .i64 ((a0.getD []).length:Int),false),(8,.int .i64 s0.2.1,false)],[]⟩
def qv9 (a0:Option (List GEl)) (d:((Option (List GEl)) × Bool × Int)):jg × ASt:=(.exit 0,⟨[(3,sl 3 vel d.1,d.2.1),(6,sl 3 vel a0,false),(7,.int .i64 ((a0.getD []).length:Int),false),(8,.int .i64 d.2.2,false),(9,.bool false,false)],[]⟩)
theorem jgp (a0:Option (List GEl)) (s0:(Option (List GEl)) × Int × Bool) (r) (h:qlj a0 s0=some r):zd pr qli (qeq a0) (qv9 a0) s0 r:=by
 unfold qlj at h
 rcases qb h with ⟨h13,h⟩ | ⟨h13,h⟩
 ·obtain ⟨v14,h15,h⟩:=qa h
  rcases qb h with ⟨h16,h⟩ | ⟨h16,h⟩
  ·obtain ⟨v17,h18,h⟩:=qa h
   cases h
   exact qo (st':=⟨[(3,sl 3 vel v17,true),(6,sl 3 vel a0,false),(7,.int .i64 ((a0.getD []).length:Int),false),(8,.int .i64 (qg .i64 (s0.2.1 + 1)),false)],[]++[.cells [(.str v14.kind,false),(.int .i64 v14.a,false),(.int .i64 v14.b,false)]]⟩) (by simp only [go_sem,seval,qli,qeq,h13,qw h15,h16,qay h18] <;> rfl) (zp rfl rfl (by first | simp only [go_sem,seval,qeq] | rfl) (by first | simp only [go_sem,seval,qeq] | rfl))
  ·rcases qb h with ⟨h19,h⟩ | ⟨h19,h⟩
   ·obtain ⟨v20,h21,h⟩:=qa h
    cases h
    exact qo (st':=⟨[(3,sl 3 vel v20,true),(6,sl 3 vel a0,false),(7,.int .i64 ((a0.getD []).length:Int),false),(8,.int .i64 (qg .i64 (s0.2.1 + 1)),false)],[]++[.cells [(.str v14.kind,false),(.int .i64 v14.a,false),(.int .i64 v14.b,false)]]⟩) (by simp only [go_sem,seval,qli,qeq,h13,qw h15,h16,h19,qfy h21 h19] <;> rfl) (zp rfl rfl (by first | simp only [go_sem,seval,qeq] | rfl) (by first | simp only [go_sem,seval,qeq] | rfl))
   ·cases h
 ·cases h
  exact qj (by simp only [go_sem,seval,qli,qeq,h13,qv9] <;> rfl)
theorem jl4 (a0:Option (List GEl)) {s0:(Option (List GEl)) × Int × Bool} {d} (h:itO (qlj a0) s0=some d):X pr (.loop qli) (qeq a0 s0)=some (qv9 a0 d):=zi (jgp a0) (fun d hh=>by cases hh) h
noncomputable def f46 (a0:Option (List GEl)):Option ((Option (List GEl)) × Bool):=
 qd (itO (qlj a0) (none,0,false)) fun d22=>
 some (d22.1,d22.2.1)
theorem W46 {a0:Option (List GEl)} {r} (h:f46 a0=some r):qc pr (X pr) 46 [sl 3 vel a0]=some (sl 3 vel r.1,r.2):=by
 unfold f46 at h
 obtain ⟨d22,h23,h⟩:=qa h
 have wh23:X pr (.loop qli) ⟨[(3,.list true 0 [],false),(6,sl 3 vel a0,false),(7,.int .i64 ((a0.getD []).length:Int),false),(8,.int .i64 0,false)],[]⟩=some (.exit 0,⟨[(3,sl 3 vel d22.1,d22.2.1),(6,sl 3 vel a0,false),(7,.int .i64 ((a0.getD []).length:Int),false),(8,.int .i64 d22.2.2,false),(9,.bool false,false)],[]⟩):=jl4 a0 h23
 have hr:(d22.1,d22.2.1)=r:=Option.some.inj h
 subst hr
 have this:∃ hh,jl pr (X pr) 46 [sl 3 vel a0] []=some (sl 3 vel d22.1,d22.2.1,hh):=by
  rw [qf (show pr.fns 46=some c46 from rfl) (by simp)]
  simp only [go_sem,seval,c46,wh23]
  exact ⟨_,rfl⟩
 obtain ⟨hh,this⟩:=this
 exact zt rfl this (by first | rfl | simp only [go_sem,seval]) (by first | rfl | simp only [go_sem,seval]) (by first | rfl | simp only [go_sem,seval])
end Go.Z
/-
 Chapter 4: copies of ladders: functions that mirror the runs,and the runs (printed by walk.py).
-/
namespace Go.Z
open Go Go.Abs
noncomputable def f198 (a0:Option (List GEl)):Option ((Option (List GEl)) × Bool):=
 cond a0.isNone
  (some (none,false))
  (qd (apO (some []) (a0.getD [])) fun v2=>
  some (v2,true))
theorem jev {a0:Option (List GEl)} {r} (h:f198 a0=some r):qc pr (X pr) 198 [sl 3 vel a0]=some (sl 3 vel r.1,r.2):=by
 unfold f198 at h
 rcases qb h with ⟨h1,h⟩ | ⟨h1,h⟩
 ·have hr:(none,false)=r:=Option.some.inj h
  subst hr
  have this:∃ hh,jl pr (X pr) 198 [sl 3 vel a0] []=some (.list true 0 [],false,hh):=by
   rw [qf (show pr.fns 198=some c198 from rfl) (by simp)]
   simp only [go_sem,seval,c198,h1]
   exact ⟨_,rfl⟩
  obtain ⟨hh,this⟩:=this
  exact zt rfl this (by first | rfl | simp only [go_sem,seval]) (by first | rfl | simp only [go_sem,seval]) (by first | rfl | simp only [go_sem,seval])
 ·obtain ⟨v2,h3,h⟩:=qa h
  have hr:(v2,true)=r:=Option.some.inj h
  subst hr
  have this:∃ hh,jl pr (X pr) 198 [sl 3 vel a0] []=some (sl 3 vel v2,true,hh):=by
   rw [qf (show pr.fns 198=some c198 from rfl) (by simp)]
   simp only [go_sem,seval,c198,h1,qb1 h3]
   exact ⟨_,rfl⟩
  obtain ⟨hh,this⟩:=this
  exact zt rfl this (by first | rfl | simp only [go_sem,seval]) (by first | rfl | simp only [go_sem,seval]) (by first | rfl | simp only [go_sem,seval])
end Go.Z
