/-
  Chapter 4: corridors, faults: functions that mirror the runs, and the runs (printed by walk.py).
-/
import Derived.Test.YtnjngdcbkkonnaaGreatDoorA9
set_option linter.unusedVariables false
set_option linter.unusedSimpArgs false
set_option maxRecDepth 100000
set_option maxHeartbeats 4000000
namespace Go.Z
open Go Go.Abs
@[go_sem] theorem jfj {n:Nat} {x:AVal}:Abs.below n (.vptr x)=Abs.below n x:=by simp only [Abs.below]
noncomputable def f164 (a0:ja) (a1:Option (List GEl)):Option Bool:=
 qd (f57 a1 a0.w) fun v1=>
 cond (decide (v1.2=0))
  (qd (f127 (⟨a0.ln,a0.ld⟩) v1.1) fun v4=>
  cond v4
   (some false)
   (qd (f127 v1.1 (⟨a0.mn,a0.md⟩)) fun v7=>
   some (!v7)))
  (some false)
theorem q0i {a0:ja} {a1:Option (List GEl)} {r} (h:f164 a0 a1=some r):qc pr (X pr) 164 [.agg [.int .i64 a0.w,.int .i64 a0.ln,.int .i64 a0.ld,.int .i64 a0.mn,.int .i64 a0.md],sl 3 vel a1]=some (.bool r,false):=by
 unfold f164 at h
 obtain ⟨v1,h2,h⟩:=qa h
 have wh2:qc pr (X pr) 57 [sl 3 vel a1,.int .i64 a0.w]=some (.tup [.agg [.int .i64 v1.1.num,.int .i64 v1.1.den],.int .i64 v1.2],false):=W57 h2
 rcases qb h with ⟨h3,h⟩ | ⟨h3,h⟩
 ·obtain ⟨v4,h5,h⟩:=qa h
  have wh5:qc pr (X pr) 127 [.agg [.int .i64 a0.ln,.int .i64 a0.ld],.agg [.int .i64 v1.1.num,.int .i64 v1.1.den]]=some (.bool v4,false):=q4x h5
  rcases qb h with ⟨h6,h⟩ | ⟨h6,h⟩
  ·have hr:false=r:=Option.some.inj h
   subst hr
   refine qp rfl ?_ (fun _=>by first | rfl | simp only [go_sem,seval]) (by first | rfl | simp only [go_sem,seval])
   rw [qf (show pr.fns 164=some c164 from rfl) (by simp)]
   simp only [go_sem,seval,c164,wh2,h3,wh5,h6]
   exact ⟨_,rfl⟩
  ·obtain ⟨v7,h8,h⟩:=qa h
   have wh8:qc pr (X pr) 127 [.agg [.int .i64 v1.1.num,.int .i64 v1.1.den],.agg [.int .i64 a0.mn,.int .i64 a0.md]]=some (.bool v7,false):=q4x h8
   have hr:(!v7)=r:=Option.some.inj h
   subst hr
   refine qp rfl ?_ (fun _=>by first | rfl | simp only [go_sem,seval]) (by first | rfl | simp only [go_sem,seval])
   rw [qf (show pr.fns 164=some c164 from rfl) (by simp)]
   simp only [go_sem,seval,c164,wh2,h3,wh5,h6,wh8]
   exact ⟨_,rfl⟩
 ·have hr:false=r:=Option.some.inj h
  subst hr
  refine qp rfl ?_ (fun _=>by first | rfl | simp only [go_sem,seval]) (by first | rfl | simp only [go_sem,seval])
  rw [qf (show pr.fns 164=some c164 from rfl) (by simp)]
  simp only [go_sem,seval,c164,wh2,h3]
  exact ⟨_,rfl⟩
noncomputable def f142 (a0:Option (List GEl)) (a1:ja):Option Bool:=
 qd (f113 a0 a1.w) fun v1=>
 cond (decide (v1.2=0))
  (qd (f58 200 v1.1 (⟨a1.ln,a1.ld⟩)) fun v4=>
  cond v4
   (some false)
   (qd (f58 200 (⟨a1.mn,a1.md⟩) v1.1) fun v7=>
   some (!v7)))
  (some false)
theorem jb9 {a0:Option (List GEl)} {a1:ja} {r} (h:f142 a0 a1=some r):qc pr (X pr) 142 [sl 3 vel a0,.agg [.int .i64 a1.w,.int .i64 a1.ln,.int .i64 a1.ld,.int .i64 a1.mn,.int .i64 a1.md]]=some (.bool r,false):=by
 unfold f142 at h
 obtain ⟨v1,h2,h⟩:=qa h
 have wh2:qc pr (X pr) 113 [sl 3 vel a0,.int .i64 a1.w]=some (.tup [.agg [.int .i64 v1.1.num,.int .i64 v1.1.den],.int .i64 v1.2],false):=jsf h2
 rcases qb h with ⟨h3,h⟩ | ⟨h3,h⟩
 ·obtain ⟨v4,h5,h⟩:=qa h
  have wh5:qc pr (X pr) 58 [.agg [.int .i64 v1.1.num,.int .i64 v1.1.den],.agg [.int .i64 a1.ln,.int .i64 a1.ld]]=some (.bool v4,false):=W58 200 h5
  rcases qb h with ⟨h6,h⟩ | ⟨h6,h⟩
  ·have hr:false=r:=Option.some.inj h
   subst hr
   refine qp rfl ?_ (fun _=>by first | rfl | simp only [go_sem,seval]) (by first | rfl | simp only [go_sem,seval])
   rw [qf (show pr.fns 142=some c142 from rfl) (by simp)]
   simp only [go_sem,seval,c142,wh2,h3,wh5,h6]
   exact ⟨_,rfl⟩
  ·obtain ⟨v7,h8,h⟩:=qa h
   have wh8:qc pr (X pr) 58 [.agg [.int .i64 a1.mn,.int .i64 a1.md],.agg [.int .i64 v1.1.num,.int .i64 v1.1.den]]=some (.bool v7,false):=W58 200 h8
   have hr:(!v7)=r:=Option.some.inj h
   subst hr
   refine qp rfl ?_ (fun _=>by first | rfl | simp only [go_sem,seval]) (by first | rfl | simp only [go_sem,seval])
   rw [qf (show pr.fns 142=some c142 from rfl) (by simp)]
   simp only [go_sem,seval,c142,wh2,h3,wh5,h6,wh8]
   exact ⟨_,rfl⟩
 ·have hr:false=r:=Option.some.inj h
  subst hr
  refine qp rfl ?_ (fun _=>by first | rfl | simp only [go_sem,seval]) (by first | rfl | simp only [go_sem,seval])
  rw [qf (show pr.fns 142=some c142 from rfl) (by simp)]
  simp only [go_sem,seval,c142,wh2,h3]
  exact ⟨_,rfl⟩
noncomputable def f143 (a0:qz):Option Int:=
 qd (f109 a0.num 0 1000) fun v1=>
 qd (f109 a0.den 1 1000) fun v3=>
 qd (f105 (some [v1,v3])) fun v5=>
 cond (decide (v5=0))
  (qd (f125 a0.num a0.den) fun v8=>
  qd (f106 (!(decide (a0.num=v8.num) && decide (a0.den=v8.den))) 1) fun v10=>
  some v10)
  (some v5)
theorem jbi {a0:qz} {r} (h:f143 a0=some r):qc pr (X pr) 143 [.agg [.int .i64 a0.num,.int .i64 a0.den]]=some (.int .i64 r,false):=by
 unfold f143 at h
 obtain ⟨v1,h2,h⟩:=qa h
 have wh2:qc pr (X pr) 109 [.int .i64 a0.num,.int .i64 0,.int .i64 1000]=some (.int .i64 v1,false):=qpj h2
 obtain ⟨v3,h4,h⟩:=qa h
 have wh4:qc pr (X pr) 109 [.int .i64 a0.den,.int .i64 1,.int .i64 1000]=some (.int .i64 v3,false):=qpj h4
 obtain ⟨v5,h6,h⟩:=qa h
 have wh6:qc pr (X pr) 105 [.list false 1 [.int .i64 v1,.int .i64 v3]]=some (.int .i64 v5,false):=qhm h6
 rcases qb h with ⟨h7,h⟩ | ⟨h7,h⟩
 ·obtain ⟨v8,h9,h⟩:=qa h
  have wh9:qc pr (X pr) 125 [.int .i64 a0.num,.int .i64 a0.den]=some (.agg [.int .i64 v8.num,.int .i64 v8.den],false):=jpm h9
  obtain ⟨v10,h11,h⟩:=qa h
  have wh11:qc pr (X pr) 106 [.bool (!(decide (a0.num=v8.num) && decide (a0.den=v8.den))),.int .i64 1]=some (.int .i64 v10,false):=qb8 h11
  have hr:v10=r:=Option.some.inj h
  subst hr
  refine qp rfl ?_ (fun _=>by first | rfl | simp only [go_sem,seval]) (by first | rfl | simp only [go_sem,seval])
  rw [qf (show pr.fns 143=some c143 from rfl) (by simp)]
  simp only [go_sem,seval,c143,wh2,wh4,wh6,h7,wh9,wh11]
  exact ⟨_,rfl⟩
 ·have hr:v5=r:=Option.some.inj h
  subst hr
  refine qp rfl ?_ (fun _=>by first | rfl | simp only [go_sem,seval]) (by first | rfl | simp only [go_sem,seval])
  rw [qf (show pr.fns 143=some c143 from rfl) (by simp)]
  simp only [go_sem,seval,c143,wh2,wh4,wh6,h7]
  exact ⟨_,rfl⟩
noncomputable def qip (a0:Option (List ja)) (s0:Int × Int):Option ((Int × Int) ⊕ ((Int × Int × Int × Int × Int × Int) ⊕ (Int × Int))):=
 cond (decide (s0.2 < ((a0.getD []).length:Int)))
  (qd (j7 (a0.getD []) s0.2) fun v41=>
  qd (f122 v41.w) fun v43=>
  qd (f143 (⟨v41.ln,v41.ld⟩)) fun v45=>
  qd (f143 (⟨v41.mn,v41.md⟩)) fun v47=>
  qd (f105 (some [v43,v45,v47])) fun v49=>
  cond (decide (v49=0))
   (qd (f127 (⟨v41.ln,v41.ld⟩) (⟨v41.mn,v41.md⟩)) fun v52=>
   cond v52
    (some (.inr (.inl (11,v41.w,v41.ln,v41.ld,v41.mn,v41.md))))
    (cond (decide (v41.w≤s0.1))
     (some (.inr (.inl (11,v41.w,v41.ln,v41.ld,v41.mn,v41.md))))
     (some (.inl (v41.w,qg .i64 (s0.2 + 1))))))
   (some (.inr (.inl (v49,v41.w,v41.ln,v41.ld,v41.mn,v41.md)))))
  (some (.inr (.inr (s0.1,s0.2))))
def qec (a0:Option (List ja)) (s0:Int × Int):ASt:=⟨[(4,.int .i64 s0.1,false),(21,sl 5 jd a0,false),(22,.int .i64 ((a0.getD []).length:Int),false),(23,.int .i64 s0.2,false)],[]⟩
def qjy (a0:Option (List ja)):(Int × Int × Int × Int × Int × Int) ⊕ (Int × Int)→jg × ASt
 | .inl d=>(.ret,⟨[(2,.int .i64 d.1,false)],[.cells [(.int .i64 d.2.1,false),(.int .i64 d.2.2.1,false),(.int .i64 d.2.2.2.1,false),(.int .i64 d.2.2.2.2.1,false),(.int .i64 d.2.2.2.2.2,false)]]⟩)
 | .inr d=>(.exit 0,⟨[(4,.int .i64 d.1,false),(21,sl 5 jd a0,false),(22,.int .i64 ((a0.getD []).length:Int),false),(23,.int .i64 d.2,false),(24,.bool false,false)],[]⟩)
theorem jlk (a0:Option (List ja)) (s0:Int × Int) (r) (h:qip a0 s0=some r):zd pr qfi (qec a0) (qjy a0) s0 r:=by
 unfold qip at h
 rcases qb h with ⟨h40,h⟩ | ⟨h40,h⟩
 ·obtain ⟨v41,h42,h⟩:=qa h
  obtain ⟨v43,h44,h⟩:=qa h
  have wh44:qc pr (X pr) 122 [.int .i64 v41.w]=some (.int .i64 v43,false):=jrw h44
  obtain ⟨v45,h46,h⟩:=qa h
  have wh46:qc pr (X pr) 143 [.agg [.int .i64 v41.ln,.int .i64 v41.ld]]=some (.int .i64 v45,false):=jbi h46
  obtain ⟨v47,h48,h⟩:=qa h
  have wh48:qc pr (X pr) 143 [.agg [.int .i64 v41.mn,.int .i64 v41.md]]=some (.int .i64 v47,false):=jbi h48
  obtain ⟨v49,h50,h⟩:=qa h
  have wh50:qc pr (X pr) 105 [.list false 1 [.int .i64 v43,.int .i64 v45,.int .i64 v47]]=some (.int .i64 v49,false):=qhm h50
  rcases qb h with ⟨h51,h⟩ | ⟨h51,h⟩
  ·obtain ⟨v52,h53,h⟩:=qa h
   have wh53:qc pr (X pr) 127 [.agg [.int .i64 v41.ln,.int .i64 v41.ld],.agg [.int .i64 v41.mn,.int .i64 v41.md]]=some (.bool v52,false):=q4x h53
   rcases qb h with ⟨h54,h⟩ | ⟨h54,h⟩
   ·cases h
    exact qj (by simp only [go_sem,seval,qfi,qec,h40,qw h42,wh44,wh46,wh48,wh50,h51,wh53,h54,qjy] <;> rfl)
   ·rcases qb h with ⟨h55,h⟩ | ⟨h55,h⟩
    ·cases h
     exact qj (by simp only [go_sem,seval,qfi,qec,h40,qw h42,wh44,wh46,wh48,wh50,h51,wh53,h54,h55,qjy] <;> rfl)
    ·cases h
     exact qo (st':=⟨[(4,.int .i64 v41.w,false),(21,sl 5 jd a0,false),(22,.int .i64 ((a0.getD []).length:Int),false),(23,.int .i64 (qg .i64 (s0.2 + 1)),false)],[]++[.cells [(.int .i64 v41.w,false),(.int .i64 v41.ln,false),(.int .i64 v41.ld,false),(.int .i64 v41.mn,false),(.int .i64 v41.md,false)]]⟩) (by simp only [go_sem,seval,qfi,qec,h40,qw h42,wh44,wh46,wh48,wh50,h51,wh53,h54,h55] <;> rfl) (zp rfl rfl (by first | simp only [go_sem,seval,qec] | rfl) (by first | simp only [go_sem,seval,qec] | rfl))
  ·cases h
   exact qj (by simp only [go_sem,seval,qfi,qec,h40,qw h42,wh44,wh46,wh48,wh50,h51,qjy] <;> rfl)
 ·cases h
  exact qj (by simp only [go_sem,seval,qfi,qec,h40,qjy] <;> rfl)
theorem q7y (a0:Option (List ja)) {s0:Int × Int} {d} (h:itO (qip a0) s0=some d):X pr (.loop qfi) (qec a0 s0)=some (qjy a0 d):=zi (jlk a0) (fun d=>by rcases d with d|d <;> (intro hh; cases hh)) h
noncomputable def f81 (a0:Option (List ja)):Option Int:=
 qd (f106 (decide (((a0.getD []).length:Int)=0)) 12) fun v1=>
 qd (f106 (decide (8 < ((a0.getD []).length:Int))) 5) fun v3=>
 qd (f105 (some [v1,v3])) fun v5=>
 cond (decide (v5=0))
  (qd (itO (qip a0) (0,0)) fun d56=>match d56 with
   | .inl d58=>
    some d58.1
   | .inr d59=>
    some 0)
  (some v5)
theorem W81 {a0:Option (List ja)} {r} (h:f81 a0=some r):qc pr (X pr) 81 [sl 5 jd a0]=some (.int .i64 r,false):=by
 unfold f81 at h
 obtain ⟨v1,h2,h⟩:=qa h
 have wh2:qc pr (X pr) 106 [.bool (decide (((a0.getD []).length:Int)=0)),.int .i64 12]=some (.int .i64 v1,false):=qb8 h2
 obtain ⟨v3,h4,h⟩:=qa h
 have wh4:qc pr (X pr) 106 [.bool (decide (8 < ((a0.getD []).length:Int))),.int .i64 5]=some (.int .i64 v3,false):=qb8 h4
 obtain ⟨v5,h6,h⟩:=qa h
 have wh6:qc pr (X pr) 105 [.list false 1 [.int .i64 v1,.int .i64 v3]]=some (.int .i64 v5,false):=qhm h6
 rcases qb h with ⟨h7,h⟩ | ⟨h7,h⟩
 ·obtain ⟨d56,h57,h⟩:=qa h
  rcases d56 with d58 | d59
  ·have wh57:X pr (.loop qfi) ⟨[(4,.int .i64 0,false),(21,sl 5 jd a0,false),(22,.int .i64 ((a0.getD []).length:Int),false),(23,.int .i64 0,false)],[]⟩=some (.ret,⟨[(2,.int .i64 d58.1,false)],[.cells [(.int .i64 d58.2.1,false),(.int .i64 d58.2.2.1,false),(.int .i64 d58.2.2.2.1,false),(.int .i64 d58.2.2.2.2.1,false),(.int .i64 d58.2.2.2.2.2,false)]]⟩):=q7y a0 h57
   have hr:d58.1=r:=Option.some.inj h
   subst hr
   refine qp rfl ?_ (fun _=>by first | rfl | simp only [go_sem,seval]) (by first | rfl | simp only [go_sem,seval])
   rw [qf (show pr.fns 81=some c81 from rfl) (by simp)]
   simp only [go_sem,seval,c81,wh2,wh4,wh6,h7,wh57]
   exact ⟨_,rfl⟩
  ·have wh57:X pr (.loop qfi) ⟨[(4,.int .i64 0,false),(21,sl 5 jd a0,false),(22,.int .i64 ((a0.getD []).length:Int),false),(23,.int .i64 0,false)],[]⟩=some (.exit 0,⟨[(4,.int .i64 d59.1,false),(21,sl 5 jd a0,false),(22,.int .i64 ((a0.getD []).length:Int),false),(23,.int .i64 d59.2,false),(24,.bool false,false)],[]⟩):=q7y a0 h57
   have hr:0=r:=Option.some.inj h
   subst hr
   refine qp rfl ?_ (fun _=>by first | rfl | simp only [go_sem,seval]) (by first | rfl | simp only [go_sem,seval])
   rw [qf (show pr.fns 81=some c81 from rfl) (by simp)]
   simp only [go_sem,seval,c81,wh2,wh4,wh6,h7,wh57]
   exact ⟨_,rfl⟩
 ·have hr:v5=r:=Option.some.inj h
  subst hr
  refine qp rfl ?_ (fun _=>by first | rfl | simp only [go_sem,seval]) (by first | rfl | simp only [go_sem,seval])
  rw [qf (show pr.fns 81=some c81 from rfl) (by simp)]
  simp only [go_sem,seval,c81,wh2,wh4,wh6,h7]
  exact ⟨_,rfl⟩
noncomputable def f118 (a0:qz):Option Int:=
 qd (f40 a0.num 0 1000) fun v1=>
 qd (f40 a0.den 1 1000) fun v3=>
 qd (f100 (some [v1,v3])) fun v5=>
 cond (decide (v5=0))
  (qd (f66 a0.num a0.den) fun v8=>
  qd (f101 (!(decide (a0.num=v8.num) && decide (a0.den=v8.den))) 1) fun v10=>
  some v10)
  (some v5)
theorem jc1 {a0:qz} {r} (h:f118 a0=some r):qc pr (X pr) 118 [.agg [.int .i64 a0.num,.int .i64 a0.den]]=some (.int .i64 r,false):=by
 unfold f118 at h
 obtain ⟨v1,h2,h⟩:=qa h
 have wh2:qc pr (X pr) 40 [.int .i64 a0.num,.int .i64 0,.int .i64 1000]=some (.int .i64 v1,false):=W40 h2
 obtain ⟨v3,h4,h⟩:=qa h
 have wh4:qc pr (X pr) 40 [.int .i64 a0.den,.int .i64 1,.int .i64 1000]=some (.int .i64 v3,false):=W40 h4
 obtain ⟨v5,h6,h⟩:=qa h
 have wh6:qc pr (X pr) 100 [.list false 1 [.int .i64 v1,.int .i64 v3]]=some (.int .i64 v5,false):=qxi h6
 rcases qb h with ⟨h7,h⟩ | ⟨h7,h⟩
 ·obtain ⟨v8,h9,h⟩:=qa h
  have wh9:qc pr (X pr) 66 [.int .i64 a0.num,.int .i64 a0.den]=some (.agg [.int .i64 v8.num,.int .i64 v8.den],false):=W66 h9
  obtain ⟨v10,h11,h⟩:=qa h
  have wh11:qc pr (X pr) 101 [.bool (!(decide (a0.num=v8.num) && decide (a0.den=v8.den))),.int .i64 1]=some (.int .i64 v10,false):=q44 h11
  have hr:v10=r:=Option.some.inj h
  subst hr
  refine qp rfl ?_ (fun _=>by first | rfl | simp only [go_sem,seval]) (by first | rfl | simp only [go_sem,seval])
  rw [qf (show pr.fns 118=some c118 from rfl) (by simp)]
  simp only [go_sem,seval,c118,wh2,wh4,wh6,h7,wh9,wh11]
  exact ⟨_,rfl⟩
 ·have hr:v5=r:=Option.some.inj h
  subst hr
  refine qp rfl ?_ (fun _=>by first | rfl | simp only [go_sem,seval]) (by first | rfl | simp only [go_sem,seval])
  rw [qf (show pr.fns 118=some c118 from rfl) (by simp)]
  simp only [go_sem,seval,c118,wh2,wh4,wh6,h7]
  exact ⟨_,rfl⟩
noncomputable def f119 (a0:qz) (a1:qz):Option Int:=
 cond (decide ((qg .i64 (a0.num * a1.den)) < (qg .i64 (a1.num * a0.den))))
  (some (-1))
  (cond (decide ((qg .i64 (a1.num * a0.den)) < (qg .i64 (a0.num * a1.den))))
   (some 1)
   (some 0))
theorem jqh {a0:qz} {a1:qz} {r} (h:f119 a0 a1=some r):qc pr (X pr) 119 [.agg [.int .i64 a0.num,.int .i64 a0.den],.agg [.int .i64 a1.num,.int .i64 a1.den]]=some (.int .i64 r,false):=by
 unfold f119 at h
 rcases qb h with ⟨h1,h⟩ | ⟨h1,h⟩
 ·have hr:(-1)=r:=Option.some.inj h
  subst hr
  refine qp rfl ?_ (fun _=>by first | rfl | simp only [go_sem,seval]) (by first | rfl | simp only [go_sem,seval])
  rw [qf (show pr.fns 119=some c119 from rfl) (by simp)]
  simp only [go_sem,seval,c119,h1]
  exact ⟨_,rfl⟩
 ·rcases qb h with ⟨h2,h⟩ | ⟨h2,h⟩
  ·have hr:1=r:=Option.some.inj h
   subst hr
   refine qp rfl ?_ (fun _=>by first | rfl | simp only [go_sem,seval]) (by first | rfl | simp only [go_sem,seval])
   rw [qf (show pr.fns 119=some c119 from rfl) (by simp)]
   simp only [go_sem,seval,c119,h1,h2]
   exact ⟨_,rfl⟩
  ·have hr:0=r:=Option.some.inj h
   subst hr
   refine qp rfl ?_ (fun _=>by first | rfl | simp only [go_sem,seval]) (by first | rfl | simp only [go_sem,seval])
   rw [qf (show pr.fns 119=some c119 from rfl) (by simp)]
   simp only [go_sem,seval,c119,h1,h2]
   exact ⟨_,rfl⟩
noncomputable def qiq (a0:Option (List ja)) (s0:Int):Option (Int ⊕ (Int ⊕ Int)):=
 cond (decide (s0 < ((a0.getD []).length:Int)))
  (qd (j7 (a0.getD []) s0) fun v38=>
  qd (f34 v38.w) fun v40=>
  qd (f118 (⟨v38.ln,v38.ld⟩)) fun v42=>
  qd (f118 (⟨v38.mn,v38.md⟩)) fun v44=>
  qd (f100 (some [v40,v42,v44])) fun v46=>
  cond (decide (v46=0))
   (qd (f119 (⟨v38.ln,v38.ld⟩) (⟨v38.mn,v38.md⟩)) fun v49=>
   cond (decide (0 < v49))
    (some (.inr (.inl 11)))
    (cond (decide (0 < s0))
     (qd (j7 (a0.getD []) (qg .i64 (s0 - 1))) fun v53=>
     cond (decide (v38.w≤v53.w))
      (some (.inr (.inl 11)))
      (some (.inl (qg .i64 (s0 + 1)))))
     (some (.inl (qg .i64 (s0 + 1))))))
   (some (.inr (.inl v46))))
  (some (.inr (.inr s0)))
def qf0 (a0:Option (List ja)) (s0:Int):ASt:=⟨[(0,sl 5 jd a0,false),(3,.int .i64 s0,false)],[]⟩
def qj3 (a0:Option (List ja)):Int ⊕ Int→jg × ASt
 | .inl d=>(.ret,⟨[(2,.int .i64 d,false)],[]⟩)
 | .inr d=>(.exit 0,⟨[(0,sl 5 jd a0,false),(3,.int .i64 d,false),(14,.bool false,false)],[]⟩)
theorem jgu (a0:Option (List ja)) (s0:Int) (r) (h:qiq a0 s0=some r):zd pr qd7 (qf0 a0) (qj3 a0) s0 r:=by
 unfold qiq at h
 rcases qb h with ⟨h37,h⟩ | ⟨h37,h⟩
 ·obtain ⟨v38,h39,h⟩:=qa h
  obtain ⟨v40,h41,h⟩:=qa h
  have wh41:qc pr (X pr) 34 [.int .i64 v38.w]=some (.int .i64 v40,false):=W34 h41
  obtain ⟨v42,h43,h⟩:=qa h
  have wh43:qc pr (X pr) 118 [.agg [.int .i64 v38.ln,.int .i64 v38.ld]]=some (.int .i64 v42,false):=jc1 h43
  obtain ⟨v44,h45,h⟩:=qa h
  have wh45:qc pr (X pr) 118 [.agg [.int .i64 v38.mn,.int .i64 v38.md]]=some (.int .i64 v44,false):=jc1 h45
  obtain ⟨v46,h47,h⟩:=qa h
  have wh47:qc pr (X pr) 100 [.list false 1 [.int .i64 v40,.int .i64 v42,.int .i64 v44]]=some (.int .i64 v46,false):=qxi h47
  rcases qb h with ⟨h48,h⟩ | ⟨h48,h⟩
  ·obtain ⟨v49,h50,h⟩:=qa h
   have wh50:qc pr (X pr) 119 [.agg [.int .i64 v38.ln,.int .i64 v38.ld],.agg [.int .i64 v38.mn,.int .i64 v38.md]]=some (.int .i64 v49,false):=jqh h50
   rcases qb h with ⟨h51,h⟩ | ⟨h51,h⟩
   ·cases h
    exact qj (by simp only [go_sem,seval,qd7,qf0,h37,qw h39,wh41,wh43,wh45,wh47,h48,wh50,h51,qj3] <;> rfl)
   ·rcases qb h with ⟨h52,h⟩ | ⟨h52,h⟩
    ·obtain ⟨v53,h54,h⟩:=qa h
     rcases qb h with ⟨h55,h⟩ | ⟨h55,h⟩
     ·cases h
      exact qj (by simp only [go_sem,seval,qd7,qf0,h37,qw h39,wh41,wh43,wh45,wh47,h48,wh50,h51,h52,qw h54,h55,qj3] <;> rfl)
     ·cases h
      exact qo (st':=⟨[(0,sl 5 jd a0,false),(3,.int .i64 (qg .i64 (s0 + 1)),false)],[]⟩) (by simp only [go_sem,seval,qd7,qf0,h37,qw h39,wh41,wh43,wh45,wh47,h48,wh50,h51,h52,qw h54,h55] <;> rfl) (jc (Nat.le_refl _))
    ·cases h
     exact qo (st':=⟨[(0,sl 5 jd a0,false),(3,.int .i64 (qg .i64 (s0 + 1)),false)],[]⟩) (by simp only [go_sem,seval,qd7,qf0,h37,qw h39,wh41,wh43,wh45,wh47,h48,wh50,h51,h52] <;> rfl) (jc (Nat.le_refl _))
  ·cases h
   exact qj (by simp only [go_sem,seval,qd7,qf0,h37,qw h39,wh41,wh43,wh45,wh47,h48,qj3] <;> rfl)
 ·cases h
  exact qj (by simp only [go_sem,seval,qd7,qf0,h37,qj3] <;> rfl)
theorem q70 (a0:Option (List ja)) {s0:Int} {d} (h:itO (qiq a0) s0=some d):X pr (.loop qd7) (qf0 a0 s0)=some (qj3 a0 d):=zi (jgu a0) (fun d=>by rcases d with d|d <;> (intro hh; cases hh)) h
noncomputable def f39 (a0:Option (List ja)):Option Int:=
 cond (decide (((a0.getD []).length:Int)=0))
  (some 12)
  (cond (decide (8 < ((a0.getD []).length:Int)))
   (some 5)
   (qd (itO (qiq a0) 0) fun d56=>match d56 with
    | .inl d58=>
     some d58
    | .inr d59=>
     some 0))
theorem W39 {a0:Option (List ja)} {r} (h:f39 a0=some r):qc pr (X pr) 39 [sl 5 jd a0]=some (.int .i64 r,false):=by
 unfold f39 at h
 rcases qb h with ⟨h1,h⟩ | ⟨h1,h⟩
 ·have hr:12=r:=Option.some.inj h
  subst hr
  refine qp rfl ?_ (fun _=>by first | rfl | simp only [go_sem,seval]) (by first | rfl | simp only [go_sem,seval])
  rw [qf (show pr.fns 39=some c39 from rfl) (by simp)]
  simp only [go_sem,seval,c39,h1]
  exact ⟨_,rfl⟩
 ·rcases qb h with ⟨h2,h⟩ | ⟨h2,h⟩
  ·have hr:5=r:=Option.some.inj h
   subst hr
   refine qp rfl ?_ (fun _=>by first | rfl | simp only [go_sem,seval]) (by first | rfl | simp only [go_sem,seval])
   rw [qf (show pr.fns 39=some c39 from rfl) (by simp)]
   simp only [go_sem,seval,c39,h1,h2]
   exact ⟨_,rfl⟩
  ·obtain ⟨d56,h57,h⟩:=qa h
   rcases d56 with d58 | d59
   ·have wh57:X pr (.loop qd7) ⟨[(0,sl 5 jd a0,false),(3,.int .i64 0,false)],[]⟩=some (.ret,⟨[(2,.int .i64 d58,false)],[]⟩):=q70 a0 h57
    have hr:d58=r:=Option.some.inj h
    subst hr
    refine qp rfl ?_ (fun _=>by first | rfl | simp only [go_sem,seval]) (by first | rfl | simp only [go_sem,seval])
    rw [qf (show pr.fns 39=some c39 from rfl) (by simp)]
    simp only [go_sem,seval,c39,h1,h2,wh57]
    exact ⟨_,rfl⟩
   ·have wh57:X pr (.loop qd7) ⟨[(0,sl 5 jd a0,false),(3,.int .i64 0,false)],[]⟩=some (.exit 0,⟨[(0,sl 5 jd a0,false),(3,.int .i64 d59,false),(14,.bool false,false)],[]⟩):=q70 a0 h57
    have hr:0=r:=Option.some.inj h
    subst hr
    refine qp rfl ?_ (fun _=>by first | rfl | simp only [go_sem,seval]) (by first | rfl | simp only [go_sem,seval])
    rw [qf (show pr.fns 39=some c39 from rfl) (by simp)]
    simp only [go_sem,seval,c39,h1,h2,wh57]
    exact ⟨_,rfl⟩
noncomputable def qlq (a0:Option (List ja)) (s0:(Option (List ja)) × Int × Bool):Option (((Option (List ja)) × Int × Bool) ⊕ (((Option (List ja)) × Bool × Int))):=
 cond (decide (s0.2.1 < ((a0.getD []).length:Int)))
  (qd (j7 (a0.getD []) s0.2.1) fun v14=>
  cond s0.2.2
   (qd (apO s0.1 [v14]) fun v17=>
   some (.inl (v17,qg .i64 (s0.2.1 + 1),true)))
   (cond s0.1.isNone
    (qd (apO s0.1 [v14]) fun v20=>
    some (.inl (v20,qg .i64 (s0.2.1 + 1),true)))
    (none)))
  (some (.inr (s0.1,s0.2.2,s0.2.1)))
def qd5 (a0:Option (List ja)) (s0:(Option (List ja)) × Int × Bool):ASt:=⟨[(3,sl 5 jd s0.1,s0.2.2),(6,sl 5 jd a0,false),(7,.int .i64 ((a0.getD []).length:Int),false),(8,.int .i64 s0.2.1,false)],[]⟩
def qxf (a0:Option (List ja)) (d:((Option (List ja)) × Bool × Int)):jg × ASt:=(.exit 0,⟨[(3,sl 5 jd d.1,d.2.1),(6,sl 5 jd a0,false),(7,.int .i64 ((a0.getD []).length:Int),false),(8,.int .i64 d.2.2,false),(9,.bool false,false)],[]⟩)
theorem jki (a0:Option (List ja)) (s0:(Option (List ja)) × Int × Bool) (r) (h:qlq a0 s0=some r):zd pr qk0 (qd5 a0) (qxf a0) s0 r:=by
 unfold qlq at h
 rcases qb h with ⟨h13,h⟩ | ⟨h13,h⟩
 ·obtain ⟨v14,h15,h⟩:=qa h
  rcases qb h with ⟨h16,h⟩ | ⟨h16,h⟩
  ·obtain ⟨v17,h18,h⟩:=qa h
   cases h
   exact qo (st':=⟨[(3,sl 5 jd v17,true),(6,sl 5 jd a0,false),(7,.int .i64 ((a0.getD []).length:Int),false),(8,.int .i64 (qg .i64 (s0.2.1 + 1)),false)],[]++[.cells [(.int .i64 v14.w,false),(.int .i64 v14.ln,false),(.int .i64 v14.ld,false),(.int .i64 v14.mn,false),(.int .i64 v14.md,false)]]⟩) (by simp only [go_sem,seval,qk0,qd5,h13,qw h15,h16,qxy h18] <;> rfl) (zp rfl rfl (by first | simp only [go_sem,seval,qd5] | rfl) (by first | simp only [go_sem,seval,qd5] | rfl))
  ·rcases qb h with ⟨h19,h⟩ | ⟨h19,h⟩
   ·obtain ⟨v20,h21,h⟩:=qa h
    cases h
    exact qo (st':=⟨[(3,sl 5 jd v20,true),(6,sl 5 jd a0,false),(7,.int .i64 ((a0.getD []).length:Int),false),(8,.int .i64 (qg .i64 (s0.2.1 + 1)),false)],[]++[.cells [(.int .i64 v14.w,false),(.int .i64 v14.ln,false),(.int .i64 v14.ld,false),(.int .i64 v14.mn,false),(.int .i64 v14.md,false)]]⟩) (by simp only [go_sem,seval,qk0,qd5,h13,qw h15,h16,h19,qxp h21 h19] <;> rfl) (zp rfl rfl (by first | simp only [go_sem,seval,qd5] | rfl) (by first | simp only [go_sem,seval,qd5] | rfl))
   ·cases h
 ·cases h
  exact qj (by simp only [go_sem,seval,qk0,qd5,h13,qxf] <;> rfl)
theorem jh8 (a0:Option (List ja)) {s0:(Option (List ja)) × Int × Bool} {d} (h:itO (qlq a0) s0=some d):X pr (.loop qk0) (qd5 a0 s0)=some (qxf a0 d):=zi (jki a0) (fun d hh=>by cases hh) h
noncomputable def f38 (a0:Option (List ja)):Option ((Option (List ja)) × Bool):=
 qd (itO (qlq a0) (none,0,false)) fun d22=>
 some (d22.1,d22.2.1)
theorem W38 {a0:Option (List ja)} {r} (h:f38 a0=some r):qc pr (X pr) 38 [sl 5 jd a0]=some (sl 5 jd r.1,r.2):=by
 unfold f38 at h
 obtain ⟨d22,h23,h⟩:=qa h
 have wh23:X pr (.loop qk0) ⟨[(3,.list true 0 [],false),(6,sl 5 jd a0,false),(7,.int .i64 ((a0.getD []).length:Int),false),(8,.int .i64 0,false)],[]⟩=some (.exit 0,⟨[(3,sl 5 jd d22.1,d22.2.1),(6,sl 5 jd a0,false),(7,.int .i64 ((a0.getD []).length:Int),false),(8,.int .i64 d22.2.2,false),(9,.bool false,false)],[]⟩):=jh8 a0 h23
 have hr:(d22.1,d22.2.1)=r:=Option.some.inj h
 subst hr
 have this:∃ hh,jl pr (X pr) 38 [sl 5 jd a0] []=some (sl 5 jd d22.1,d22.2.1,hh):=by
  rw [qf (show pr.fns 38=some c38 from rfl) (by simp)]
  simp only [go_sem,seval,c38,wh23]
  exact ⟨_,rfl⟩
 obtain ⟨hh,this⟩:=this
 exact zt rfl this (by first | rfl | simp only [go_sem,seval]) (by first | rfl | simp only [go_sem,seval]) (by first | rfl | simp only [go_sem,seval])
noncomputable def f78 (a0:jx):Option jx:=
 qd (f46 a0.ladder) fun v1=>
 some (⟨a0.band,v1.1⟩)
theorem W78 {a0:jx} {r} (h:f78 a0=some r):qc pr (X pr) 78 [.agg [.int .i64 a0.band,sl 3 vel a0.ladder]]=some (.agg [.int .i64 r.band,sl 3 vel r.ladder],false):=by
 unfold f78 at h
 obtain ⟨v1,h2,h⟩:=qa h
 have wh2:qc pr (X pr) 46 [sl 3 vel a0.ladder]=some (sl 3 vel v1.1,v1.2):=W46 h2
 have hr:⟨a0.band,v1.1⟩=r:=Option.some.inj h
 subst hr
 refine qp rfl ?_ (fun _=>by first | rfl | simp only [go_sem,seval]) (by first | rfl | simp only [go_sem,seval])
 rw [qf (show pr.fns 78=some c78 from rfl) (by simp)]
 simp only [go_sem,seval,c78,wh2]
 exact ⟨_,rfl⟩
noncomputable def f83 (a0:jx):Option jx:=
 qd (f27 a0.ladder) fun v1=>
 some (⟨a0.band,v1.1⟩)
theorem W83 {a0:jx} {r} (h:f83 a0=some r):qc pr (X pr) 83 [.agg [.int .i64 a0.band,sl 3 vel a0.ladder]]=some (.agg [.int .i64 r.band,sl 3 vel r.ladder],false):=by
 unfold f83 at h
 obtain ⟨v1,h2,h⟩:=qa h
 have wh2:qc pr (X pr) 27 [sl 3 vel a0.ladder]=some (sl 3 vel v1.1,v1.2):=W27 h2
 have hr:⟨a0.band,v1.1⟩=r:=Option.some.inj h
 subst hr
 refine qp rfl ?_ (fun _=>by first | rfl | simp only [go_sem,seval]) (by first | rfl | simp only [go_sem,seval])
 rw [qf (show pr.fns 83=some c83 from rfl) (by simp)]
 simp only [go_sem,seval,c83,wh2]
 exact ⟨_,rfl⟩
noncomputable def f82 (a0:jx) (a1:jx):Option Bool:=
 cond (decide (a0.band=a1.band))
  (qd (f26 a0.ladder a1.ladder) fun v2=>
  some v2)
  (some false)
theorem W82 {a0:jx} {a1:jx} {r} (h:f82 a0 a1=some r):qc pr (X pr) 82 [.agg [.int .i64 a0.band,sl 3 vel a0.ladder],.agg [.int .i64 a1.band,sl 3 vel a1.ladder]]=some (.bool r,false):=by
 unfold f82 at h
 rcases qb h with ⟨h1,h⟩ | ⟨h1,h⟩
 ·obtain ⟨v2,h3,h⟩:=qa h
  have wh3:qc pr (X pr) 26 [sl 3 vel a0.ladder,sl 3 vel a1.ladder]=some (.bool v2,false):=W26 h3
  have hr:v2=r:=Option.some.inj h
  subst hr
  refine qp rfl ?_ (fun _=>by first | rfl | simp only [go_sem,seval]) (by first | rfl | simp only [go_sem,seval])
  rw [qf (show pr.fns 82=some c82 from rfl) (by simp)]
  simp only [go_sem,seval,c82,h1,wh3]
  exact ⟨_,rfl⟩
 ·have hr:false=r:=Option.some.inj h
  subst hr
  refine qp rfl ?_ (fun _=>by first | rfl | simp only [go_sem,seval]) (by first | rfl | simp only [go_sem,seval])
  rw [qf (show pr.fns 82=some c82 from rfl) (by simp)]
  simp only [go_sem,seval,c82,h1]
  exact ⟨_,rfl⟩
noncomputable def f54 (a0:qbr):Option Int:=
 qd (f25 a0.parts) fun v1=>
 qd (f33 a0.parts a0.choice) fun v3=>
 qd (f39 a0.bands) fun v5=>
 qd (f32 (some [v1,v3,v5])) fun v7=>
 some v7
theorem W54 {a0:qbr} {r} (h:f54 a0=some r):qc pr (X pr) 54 [.agg [sl 8 qn a0.parts,sl 1 qu a0.choice,sl 5 jd a0.bands]]=some (.int .i64 r,false):=by
 unfold f54 at h
 obtain ⟨v1,h2,h⟩:=qa h
 have wh2:qc pr (X pr) 25 [sl 8 qn a0.parts]=some (.int .i64 v1,false):=W25 h2
 obtain ⟨v3,h4,h⟩:=qa h
 have wh4:qc pr (X pr) 33 [sl 8 qn a0.parts,sl 1 qu a0.choice]=some (.int .i64 v3,false):=W33 h4
 obtain ⟨v5,h6,h⟩:=qa h
 have wh6:qc pr (X pr) 39 [sl 5 jd a0.bands]=some (.int .i64 v5,false):=W39 h6
 obtain ⟨v7,h8,h⟩:=qa h
 have wh8:qc pr (X pr) 32 [.list false 1 [.int .i64 v1,.int .i64 v3,.int .i64 v5]]=some (.int .i64 v7,false):=W32 h8
 have hr:v7=r:=Option.some.inj h
 subst hr
 refine qp rfl ?_ (fun _=>by first | rfl | simp only [go_sem,seval]) (by first | rfl | simp only [go_sem,seval])
 rw [qf (show pr.fns 54=some c54 from rfl) (by simp)]
 simp only [go_sem,seval,c54,wh2,wh4,wh6,wh8]
 exact ⟨_,rfl⟩
noncomputable def f182 (a0:GEl) (c0_0:List UInt8) (c0_1:Int) (c0_2:Int):Option Bool:=
 some (decide (a0.kind=c0_0) && decide (a0.a=c0_1) && decide (a0.b=c0_2))
theorem jrz {a0:GEl} {c0_0:List UInt8} {c0_1:Int} {c0_2:Int} {r} (h:f182 a0 c0_0 c0_1 c0_2=some r):jl pr (X pr) 182 [.agg [.str a0.kind,.int .i64 a0.a,.int .i64 a0.b],.ptr 0 0] [.cells [(.str c0_0,false),(.int .i64 c0_1,false),(.int .i64 c0_2,false)]]=some (.bool r,false,[.cells [(.str c0_0,false),(.int .i64 c0_1,false),(.int .i64 c0_2,false)]]):=by
 unfold f182 at h
 have hr:(decide (a0.kind=c0_0) && decide (a0.a=c0_1) && decide (a0.b=c0_2))=r:=Option.some.inj h
 subst hr
 rw [qf (show pr.fns 182=some c182 from rfl) (by simp)]
 simp only [go_sem,seval,c182] <;> rfl
noncomputable def qft (a0:Option (List GEl)) (c0_0:List UInt8) (c0_1:Int) (c0_2:Int) (s0:Int):Option (Int ⊕ (Int ⊕ Int)):=
 cond (decide (s0 < ((a0.getD []).length:Int)))
  (qd (j7 (a0.getD []) s0) fun v14=>
  qd (f182 v14 c0_0 c0_1 c0_2) fun v16=>
  cond v16
   (some (.inr (.inl s0)))
   (some (.inl (qg .i64 (s0 + 1)))))
  (some (.inr (.inr s0)))
def qkp (a0:Option (List GEl)) (c0_0:List UInt8) (c0_1:Int) (c0_2:Int) (s0:Int):ASt:=⟨[(0,sl 3 vel a0,false),(1,.fn (.func 182) [] [.ptr 0 0],false),(7,.int .i64 ((a0.getD []).length:Int),false),(8,.int .i64 s0,false)],[.cells [(.str c0_0,false),(.int .i64 c0_1,false),(.int .i64 c0_2,false)]]⟩
def qoj (a0:Option (List GEl)) (c0_0:List UInt8) (c0_1:Int) (c0_2:Int):Int ⊕ Int→jg × ASt
 | .inl d=>(.ret,⟨[(4,.int .i64 d,false)],[.cells [(.str c0_0,false),(.int .i64 c0_1,false),(.int .i64 c0_2,false)]]⟩)
 | .inr d=>(.exit 0,⟨[(0,sl 3 vel a0,false),(1,.fn (.func 182) [] [.ptr 0 0],false),(7,.int .i64 ((a0.getD []).length:Int),false),(8,.int .i64 d,false),(9,.bool false,false)],[.cells [(.str c0_0,false),(.int .i64 c0_1,false),(.int .i64 c0_2,false)]]⟩)
theorem jcj (a0:Option (List GEl)) (c0_0:List UInt8) (c0_1:Int) (c0_2:Int) (s0:Int) (r) (h:qft a0 c0_0 c0_1 c0_2 s0=some r):zd pr qfq (qkp a0 c0_0 c0_1 c0_2) (qoj a0 c0_0 c0_1 c0_2) s0 r:=by
 unfold qft at h
 rcases qb h with ⟨h13,h⟩ | ⟨h13,h⟩
 ·obtain ⟨v14,h15,h⟩:=qa h
  obtain ⟨v16,h17,h⟩:=qa h
  have wh17:jl pr (X pr) 182 [.agg [.str v14.kind,.int .i64 v14.a,.int .i64 v14.b],.ptr 0 0] [.cells [(.str c0_0,false),(.int .i64 c0_1,false),(.int .i64 c0_2,false)]]=some (.bool v16,false,[.cells [(.str c0_0,false),(.int .i64 c0_1,false),(.int .i64 c0_2,false)]]):=jrz h17
  rcases qb h with ⟨h18,h⟩ | ⟨h18,h⟩
  ·cases h
   exact qj (by simp only [go_sem,seval,qfq,qkp,h13,qw h15,wh17,h18,qoj] <;> rfl)
  ·cases h
   exact qo (st':=⟨[(0,sl 3 vel a0,false),(1,.fn (.func 182) [] [.ptr 0 0],false),(7,.int .i64 ((a0.getD []).length:Int),false),(8,.int .i64 (qg .i64 (s0 + 1)),false)],[.cells [(.str c0_0,false),(.int .i64 c0_1,false),(.int .i64 c0_2,false)]]⟩) (by simp only [go_sem,seval,qfq,qkp,h13,qw h15,wh17,h18] <;> rfl) (jc (Nat.le_refl _))
 ·cases h
  exact qj (by simp only [go_sem,seval,qfq,qkp,h13,qoj] <;> rfl)
theorem q2r (a0:Option (List GEl)) (c0_0:List UInt8) (c0_1:Int) (c0_2:Int) {s0:Int} {d} (h:itO (qft a0 c0_0 c0_1 c0_2) s0=some d):X pr (.loop qfq) (qkp a0 c0_0 c0_1 c0_2 s0)=some (qoj a0 c0_0 c0_1 c0_2 d):=zi (jcj a0 c0_0 c0_1 c0_2) (fun d=>by rcases d with d|d <;> (intro hh; cases hh)) h
noncomputable def f210 (a0:Option (List GEl)) (c0_0:List UInt8) (c0_1:Int) (c0_2:Int):Option Int:=
 qd (itO (qft a0 c0_0 c0_1 c0_2) 0) fun d19=>match d19 with
  | .inl d21=>
   some d21
  | .inr d22=>
   some (-1)
theorem jql {a0:Option (List GEl)} {c0_0:List UInt8} {c0_1:Int} {c0_2:Int} {r} (h:f210 a0 c0_0 c0_1 c0_2=some r):jl pr (X pr) 210 [sl 3 vel a0,.fn (.func 182) [] [.ptr 0 0]] [.cells [(.str c0_0,false),(.int .i64 c0_1,false),(.int .i64 c0_2,false)]]=some (.int .i64 r,false,[.cells [(.str c0_0,false),(.int .i64 c0_1,false),(.int .i64 c0_2,false)]]):=by
 unfold f210 at h
 obtain ⟨d19,h20,h⟩:=qa h
 rcases d19 with d21 | d22
 ·have wh20:X pr (.loop qfq) ⟨[(0,sl 3 vel a0,false),(1,.fn (.func 182) [] [.ptr 0 0],false),(7,.int .i64 ((a0.getD []).length:Int),false),(8,.int .i64 0,false)],[.cells [(.str c0_0,false),(.int .i64 c0_1,false),(.int .i64 c0_2,false)]]⟩=some (.ret,⟨[(4,.int .i64 d21,false)],[.cells [(.str c0_0,false),(.int .i64 c0_1,false),(.int .i64 c0_2,false)]]⟩):=q2r a0 c0_0 c0_1 c0_2 h20
  have hr:d21=r:=Option.some.inj h
  subst hr
  rw [qf (show pr.fns 210=some c210 from rfl) (by simp)]
  simp only [go_sem,seval,c210,wh20] <;> rfl
 ·have wh20:X pr (.loop qfq) ⟨[(0,sl 3 vel a0,false),(1,.fn (.func 182) [] [.ptr 0 0],false),(7,.int .i64 ((a0.getD []).length:Int),false),(8,.int .i64 0,false)],[.cells [(.str c0_0,false),(.int .i64 c0_1,false),(.int .i64 c0_2,false)]]⟩=some (.exit 0,⟨[(0,sl 3 vel a0,false),(1,.fn (.func 182) [] [.ptr 0 0],false),(7,.int .i64 ((a0.getD []).length:Int),false),(8,.int .i64 d22,false),(9,.bool false,false)],[.cells [(.str c0_0,false),(.int .i64 c0_1,false),(.int .i64 c0_2,false)]]⟩):=q2r a0 c0_0 c0_1 c0_2 h20
  have hr:(-1)=r:=Option.some.inj h
  subst hr
  rw [qf (show pr.fns 210=some c210 from rfl) (by simp)]
  simp only [go_sem,seval,c210,wh20] <;> rfl
noncomputable def f180 (a0:Option (List GEl)) (c0_0:List UInt8) (c0_1:Int) (c0_2:Int):Option Bool:=
 qd (f210 a0 c0_0 c0_1 c0_2) fun v1=>
 some (decide (0≤v1))
theorem jdn {a0:Option (List GEl)} {c0_0:List UInt8} {c0_1:Int} {c0_2:Int} {r} (h:f180 a0 c0_0 c0_1 c0_2=some r):jl pr (X pr) 180 [sl 3 vel a0,.fn (.func 182) [] [.ptr 0 0]] [.cells [(.str c0_0,false),(.int .i64 c0_1,false),(.int .i64 c0_2,false)]]=some (.bool r,false,[.cells [(.str c0_0,false),(.int .i64 c0_1,false),(.int .i64 c0_2,false)]]):=by
 unfold f180 at h
 obtain ⟨v1,h2,h⟩:=qa h
 have wh2:jl pr (X pr) 210 [sl 3 vel a0,.fn (.func 182) [] [.ptr 0 0]] [.cells [(.str c0_0,false),(.int .i64 c0_1,false),(.int .i64 c0_2,false)]]=some (.int .i64 v1,false,[.cells [(.str c0_0,false),(.int .i64 c0_1,false),(.int .i64 c0_2,false)]]):=jql h2
 have hr:decide (0≤v1)=r:=Option.some.inj h
 subst hr
 rw [qf (show pr.fns 180=some c180 from rfl) (by simp)]
 simp only [go_sem,seval,c180,wh2] <;> rfl
noncomputable def qd9 (a0:jx) (a1:Option (List qi)) (a2:Option (List Int)) (a3:Option (List ja)) (s0:Int):Option (Int ⊕ (((List UInt8) × Int × Int) ⊕ Int)):=
 cond (decide (s0 < ((a0.ladder.getD []).length:Int)))
  (qd (j7 (a0.ladder.getD []) s0) fun v34=>
  qd (j7 (a2.getD []) s0) fun v36=>
  qd (j7 (a1.getD []) v36) fun v38=>
  qd (f99 v38 false) fun v40=>
  qd (f180 v40.1 v34.kind v34.a v34.b) fun v42=>
  cond v42
   (some (.inl (qg .i64 (s0 + 1))))
   (some (.inr (.inl (v34.kind,v34.a,v34.b)))))
  (some (.inr (.inr s0)))
def qe3 (a0:jx) (a1:Option (List qi)) (a2:Option (List Int)) (a3:Option (List ja)) (s0:Int):ASt:=⟨[(1,sl 8 qn a1,false),(2,sl 1 qu a2,false),(3,sl 5 jd a3,false),(4,.vptr (.agg [.int .i64 a0.band,sl 3 vel a0.ladder]),false),(37,sl 3 vel a0.ladder,false),(38,.int .i64 ((a0.ladder.getD []).length:Int),false),(39,.int .i64 s0,false)],[]⟩
def qos (a0:jx) (a1:Option (List qi)) (a2:Option (List Int)) (a3:Option (List ja)):((List UInt8) × Int × Int) ⊕ Int→jg × ASt
 | .inl d=>(.ret,⟨[(8,.int .i64 1,false)],[.cells [(.str d.1,false),(.int .i64 d.2.1,false),(.int .i64 d.2.2,false)]]⟩)
 | .inr d=>(.exit 0,⟨[(1,sl 8 qn a1,false),(2,sl 1 qu a2,false),(3,sl 5 jd a3,false),(4,.vptr (.agg [.int .i64 a0.band,sl 3 vel a0.ladder]),false),(37,sl 3 vel a0.ladder,false),(38,.int .i64 ((a0.ladder.getD []).length:Int),false),(39,.int .i64 d,false),(40,.bool false,false)],[]⟩)
theorem jbv (a0:jx) (a1:Option (List qi)) (a2:Option (List Int)) (a3:Option (List ja)) (s0:Int) (r) (h:qd9 a0 a1 a2 a3 s0=some r):zd pr qa9 (qe3 a0 a1 a2 a3) (qos a0 a1 a2 a3) s0 r:=by
 unfold qd9 at h
 rcases qb h with ⟨h33,h⟩ | ⟨h33,h⟩
 ·obtain ⟨v34,h35,h⟩:=qa h
  obtain ⟨v36,h37,h⟩:=qa h
  obtain ⟨v38,h39,h⟩:=qa h
  obtain ⟨v40,h41,h⟩:=qa h
  have wh41:qc pr (X pr) 99 [.agg [.str v38.name,.str v38.kd,.int .i64 v38.pa,.int .i64 v38.pb,.int .i64 v38.sa,.int .i64 v38.sb,.int .i64 v38.cost,.int .i64 v38.stock],.bool false]=some (sl 3 vel v40.1,v40.2):=W99 h41
  obtain ⟨v42,h43,h⟩:=qa h
  have wh43:jl pr (X pr) 180 [sl 3 vel v40.1,.fn (.func 182) [] [.ptr 0 0]] [.cells [(.str v34.kind,false),(.int .i64 v34.a,false),(.int .i64 v34.b,false)]]=some (.bool v42,false,[.cells [(.str v34.kind,false),(.int .i64 v34.a,false),(.int .i64 v34.b,false)]]):=jdn h43
  rcases qb h with ⟨h44,h⟩ | ⟨h44,h⟩
  ·cases h
   exact qo (st':=⟨[(1,sl 8 qn a1,false),(2,sl 1 qu a2,false),(3,sl 5 jd a3,false),(4,.vptr (.agg [.int .i64 a0.band,sl 3 vel a0.ladder]),false),(37,sl 3 vel a0.ladder,false),(38,.int .i64 ((a0.ladder.getD []).length:Int),false),(39,.int .i64 (qg .i64 (s0 + 1)),false)],[]++[.cells [(.str v34.kind,false),(.int .i64 v34.a,false),(.int .i64 v34.b,false)]]⟩) (by simp only [go_sem,seval,qa9,qe3,h33,qw h35,qw h37,qw h39,wh41,wh43,h44] <;> rfl) (zp rfl rfl (by first | simp only [go_sem,seval,qe3] | rfl) (by first | simp only [go_sem,seval,qe3] | rfl))
  ·cases h
   exact qj (by simp only [go_sem,seval,qa9,qe3,h33,qw h35,qw h37,qw h39,wh41,wh43,h44,qos] <;> rfl)
 ·cases h
  exact qj (by simp only [go_sem,seval,qa9,qe3,h33,qos] <;> rfl)
theorem q19 (a0:jx) (a1:Option (List qi)) (a2:Option (List Int)) (a3:Option (List ja)) {s0:Int} {d} (h:itO (qd9 a0 a1 a2 a3) s0=some d):X pr (.loop qa9) (qe3 a0 a1 a2 a3 s0)=some (qos a0 a1 a2 a3 d):=zi (jbv a0 a1 a2 a3) (fun d=>by rcases d with d|d <;> (intro hh; cases hh)) h
noncomputable def qop (a0:jx) (a1:Option (List qi)) (a2:Option (List Int)) (a3:Option (List ja)) (s0:Int):Option (Int ⊕ (((List UInt8) × Int × Int) ⊕ Int)):=
 cond (decide (s0 < ((a0.ladder.getD []).length:Int)))
  (qd (j7 (a0.ladder.getD []) s0) fun v87=>
  qd (j7 (a2.getD []) s0) fun v89=>
  qd (j7 (a1.getD []) v89) fun v91=>
  qd (f99 v91 false) fun v93=>
  qd (f180 v93.1 v87.kind v87.a v87.b) fun v95=>
  cond v95
   (some (.inl (qg .i64 (s0 + 1))))
   (some (.inr (.inl (v87.kind,v87.a,v87.b)))))
  (some (.inr (.inr s0)))
def qdv (a0:jx) (a1:Option (List qi)) (a2:Option (List Int)) (a3:Option (List ja)) (s0:Int):ASt:=⟨[(1,sl 8 qn a1,false),(2,sl 1 qu a2,false),(3,sl 5 jd a3,false),(4,.vptr (.agg [.int .i64 a0.band,sl 3 vel a0.ladder]),false),(37,sl 3 vel a0.ladder,false),(38,.int .i64 ((a0.ladder.getD []).length:Int),false),(39,.int .i64 s0,false)],[]⟩
def qlf (a0:jx) (a1:Option (List qi)) (a2:Option (List Int)) (a3:Option (List ja)):((List UInt8) × Int × Int) ⊕ Int→jg × ASt
 | .inl d=>(.ret,⟨[(8,.int .i64 1,false)],[.cells [(.str d.1,false),(.int .i64 d.2.1,false),(.int .i64 d.2.2,false)]]⟩)
 | .inr d=>(.exit 0,⟨[(1,sl 8 qn a1,false),(2,sl 1 qu a2,false),(3,sl 5 jd a3,false),(4,.vptr (.agg [.int .i64 a0.band,sl 3 vel a0.ladder]),false),(37,sl 3 vel a0.ladder,false),(38,.int .i64 ((a0.ladder.getD []).length:Int),false),(39,.int .i64 d,false),(40,.bool false,false)],[]⟩)
theorem q94 (a0:jx) (a1:Option (List qi)) (a2:Option (List Int)) (a3:Option (List ja)) (s0:Int) (r) (h:qop a0 a1 a2 a3 s0=some r):zd pr qa9 (qdv a0 a1 a2 a3) (qlf a0 a1 a2 a3) s0 r:=by
 unfold qop at h
 rcases qb h with ⟨h86,h⟩ | ⟨h86,h⟩
 ·obtain ⟨v87,h88,h⟩:=qa h
  obtain ⟨v89,h90,h⟩:=qa h
  obtain ⟨v91,h92,h⟩:=qa h
  obtain ⟨v93,h94,h⟩:=qa h
  have wh94:qc pr (X pr) 99 [.agg [.str v91.name,.str v91.kd,.int .i64 v91.pa,.int .i64 v91.pb,.int .i64 v91.sa,.int .i64 v91.sb,.int .i64 v91.cost,.int .i64 v91.stock],.bool false]=some (sl 3 vel v93.1,v93.2):=W99 h94
  obtain ⟨v95,h96,h⟩:=qa h
  have wh96:jl pr (X pr) 180 [sl 3 vel v93.1,.fn (.func 182) [] [.ptr 0 0]] [.cells [(.str v87.kind,false),(.int .i64 v87.a,false),(.int .i64 v87.b,false)]]=some (.bool v95,false,[.cells [(.str v87.kind,false),(.int .i64 v87.a,false),(.int .i64 v87.b,false)]]):=jdn h96
  rcases qb h with ⟨h97,h⟩ | ⟨h97,h⟩
  ·cases h
   exact qo (st':=⟨[(1,sl 8 qn a1,false),(2,sl 1 qu a2,false),(3,sl 5 jd a3,false),(4,.vptr (.agg [.int .i64 a0.band,sl 3 vel a0.ladder]),false),(37,sl 3 vel a0.ladder,false),(38,.int .i64 ((a0.ladder.getD []).length:Int),false),(39,.int .i64 (qg .i64 (s0 + 1)),false)],[]++[.cells [(.str v87.kind,false),(.int .i64 v87.a,false),(.int .i64 v87.b,false)]]⟩) (by simp only [go_sem,seval,qa9,qdv,h86,qw h88,qw h90,qw h92,wh94,wh96,h97] <;> rfl) (zp rfl rfl (by first | simp only [go_sem,seval,qdv] | rfl) (by first | simp only [go_sem,seval,qdv] | rfl))
  ·cases h
   exact qj (by simp only [go_sem,seval,qa9,qdv,h86,qw h88,qw h90,qw h92,wh94,wh96,h97,qlf] <;> rfl)
 ·cases h
  exact qj (by simp only [go_sem,seval,qa9,qdv,h86,qlf] <;> rfl)
theorem qy3 (a0:jx) (a1:Option (List qi)) (a2:Option (List Int)) (a3:Option (List ja)) {s0:Int} {d} (h:itO (qop a0 a1 a2 a3) s0=some d):X pr (.loop qa9) (qdv a0 a1 a2 a3 s0)=some (qlf a0 a1 a2 a3 d):=zi (q94 a0 a1 a2 a3) (fun d=>by rcases d with d|d <;> (intro hh; cases hh)) h
noncomputable def f141 (a0:jx) (a1:Option (List qi)) (a2:Option (List Int)) (a3:Option (List ja)):Option Int:=
 cond (decide (a0.band < 0))
  (qd (f106 true 10) fun v2=>
  qd (f106 (!decide (((a0.ladder.getD []).length:Int)=((a2.getD []).length:Int))) 2) fun v4=>
  qd (f105 (some [v2,v4])) fun v6=>
  cond (decide (v6=0))
   (qd (itO (qd9 a0 a1 a2 a3) 0) fun d45=>match d45 with
    | .inl d47=>
     some 1
    | .inr d48=>
     qd (j7 (a3.getD []) a0.band) fun v49=>
     qd (f164 v49 a0.ladder) fun v51=>
     qd (f106 v51 22) fun v53=>
     some v53)
   (some v6))
  (qd (f106 (decide (((a3.getD []).length:Int)≤a0.band)) 10) fun v55=>
  qd (f106 (!decide (((a0.ladder.getD []).length:Int)=((a2.getD []).length:Int))) 2) fun v57=>
  qd (f105 (some [v55,v57])) fun v59=>
  cond (decide (v59=0))
   (qd (itO (qop a0 a1 a2 a3) 0) fun d98=>match d98 with
    | .inl d100=>
     some 1
    | .inr d101=>
     qd (j7 (a3.getD []) a0.band) fun v102=>
     qd (f164 v102 a0.ladder) fun v104=>
     qd (f106 v104 22) fun v106=>
     some v106)
   (some v59))
theorem jro {a0:jx} {a1:Option (List qi)} {a2:Option (List Int)} {a3:Option (List ja)} {r} (h:f141 a0 a1 a2 a3=some r):qc pr (X pr) 141 [.agg [.int .i64 a0.band,sl 3 vel a0.ladder],sl 8 qn a1,sl 1 qu a2,sl 5 jd a3]=some (.int .i64 r,false):=by
 unfold f141 at h
 rcases qb h with ⟨h1,h⟩ | ⟨h1,h⟩
 ·obtain ⟨v2,h3,h⟩:=qa h
  obtain ⟨v4,h5,h⟩:=qa h
  have wh5:qc pr (X pr) 106 [.bool (!decide (((a0.ladder.getD []).length:Int)=((a2.getD []).length:Int))),.int .i64 2]=some (.int .i64 v4,false):=qb8 h5
  obtain ⟨v6,h7,h⟩:=qa h
  have wh7:qc pr (X pr) 105 [.list false 1 [.int .i64 v2,.int .i64 v4]]=some (.int .i64 v6,false):=qhm h7
  rcases qb h with ⟨h8,h⟩ | ⟨h8,h⟩
  ·obtain ⟨d45,h46,h⟩:=qa h
   rcases d45 with d47 | d48
   ·have wh46:X pr (.loop qa9) ⟨[(1,sl 8 qn a1,false),(2,sl 1 qu a2,false),(3,sl 5 jd a3,false),(4,.vptr (.agg [.int .i64 a0.band,sl 3 vel a0.ladder]),false),(37,sl 3 vel a0.ladder,false),(38,.int .i64 ((a0.ladder.getD []).length:Int),false),(39,.int .i64 0,false)],[]⟩=some (.ret,⟨[(8,.int .i64 1,false)],[.cells [(.str d47.1,false),(.int .i64 d47.2.1,false),(.int .i64 d47.2.2,false)]]⟩):=q19 a0 a1 a2 a3 h46
    have hr:1=r:=Option.some.inj h
    subst hr
    refine qp rfl ?_ (fun _=>by first | rfl | simp only [go_sem,seval]) (by first | rfl | simp only [go_sem,seval])
    rw [qf (show pr.fns 141=some c141 from rfl) (by simp)]
    simp only [go_sem,seval,c141,h1,qb8 h3,wh5,wh7,h8,wh46]
    exact ⟨_,rfl⟩
   ·have wh46:X pr (.loop qa9) ⟨[(1,sl 8 qn a1,false),(2,sl 1 qu a2,false),(3,sl 5 jd a3,false),(4,.vptr (.agg [.int .i64 a0.band,sl 3 vel a0.ladder]),false),(37,sl 3 vel a0.ladder,false),(38,.int .i64 ((a0.ladder.getD []).length:Int),false),(39,.int .i64 0,false)],[]⟩=some (.exit 0,⟨[(1,sl 8 qn a1,false),(2,sl 1 qu a2,false),(3,sl 5 jd a3,false),(4,.vptr (.agg [.int .i64 a0.band,sl 3 vel a0.ladder]),false),(37,sl 3 vel a0.ladder,false),(38,.int .i64 ((a0.ladder.getD []).length:Int),false),(39,.int .i64 d48,false),(40,.bool false,false)],[]⟩):=q19 a0 a1 a2 a3 h46
    obtain ⟨v49,h50,h⟩:=qa h
    obtain ⟨v51,h52,h⟩:=qa h
    have wh52:qc pr (X pr) 164 [.agg [.int .i64 v49.w,.int .i64 v49.ln,.int .i64 v49.ld,.int .i64 v49.mn,.int .i64 v49.md],sl 3 vel a0.ladder]=some (.bool v51,false):=q0i h52
    obtain ⟨v53,h54,h⟩:=qa h
    have hr:v53=r:=Option.some.inj h
    subst hr
    refine qp rfl ?_ (fun _=>by first | rfl | simp only [go_sem,seval]) (by first | rfl | simp only [go_sem,seval])
    rw [qf (show pr.fns 141=some c141 from rfl) (by simp)]
    simp only [go_sem,seval,c141,h1,qb8 h3,wh5,wh7,h8,wh46,qw h50,wh52,qb8 h54]
    exact ⟨_,rfl⟩
  ·have hr:v6=r:=Option.some.inj h
   subst hr
   refine qp rfl ?_ (fun _=>by first | rfl | simp only [go_sem,seval]) (by first | rfl | simp only [go_sem,seval])
   rw [qf (show pr.fns 141=some c141 from rfl) (by simp)]
   simp only [go_sem,seval,c141,h1,qb8 h3,wh5,wh7,h8]
   exact ⟨_,rfl⟩
 ·obtain ⟨v55,h56,h⟩:=qa h
  have wh56:qc pr (X pr) 106 [.bool (decide (((a3.getD []).length:Int)≤a0.band)),.int .i64 10]=some (.int .i64 v55,false):=qb8 h56
  obtain ⟨v57,h58,h⟩:=qa h
  have wh58:qc pr (X pr) 106 [.bool (!decide (((a0.ladder.getD []).length:Int)=((a2.getD []).length:Int))),.int .i64 2]=some (.int .i64 v57,false):=qb8 h58
  obtain ⟨v59,h60,h⟩:=qa h
  have wh60:qc pr (X pr) 105 [.list false 1 [.int .i64 v55,.int .i64 v57]]=some (.int .i64 v59,false):=qhm h60
  rcases qb h with ⟨h61,h⟩ | ⟨h61,h⟩
  ·obtain ⟨d98,h99,h⟩:=qa h
   rcases d98 with d100 | d101
   ·have wh99:X pr (.loop qa9) ⟨[(1,sl 8 qn a1,false),(2,sl 1 qu a2,false),(3,sl 5 jd a3,false),(4,.vptr (.agg [.int .i64 a0.band,sl 3 vel a0.ladder]),false),(37,sl 3 vel a0.ladder,false),(38,.int .i64 ((a0.ladder.getD []).length:Int),false),(39,.int .i64 0,false)],[]⟩=some (.ret,⟨[(8,.int .i64 1,false)],[.cells [(.str d100.1,false),(.int .i64 d100.2.1,false),(.int .i64 d100.2.2,false)]]⟩):=qy3 a0 a1 a2 a3 h99
    have hr:1=r:=Option.some.inj h
    subst hr
    refine qp rfl ?_ (fun _=>by first | rfl | simp only [go_sem,seval]) (by first | rfl | simp only [go_sem,seval])
    rw [qf (show pr.fns 141=some c141 from rfl) (by simp)]
    simp only [go_sem,seval,c141,h1,wh56,wh58,wh60,h61,wh99]
    exact ⟨_,rfl⟩
   ·have wh99:X pr (.loop qa9) ⟨[(1,sl 8 qn a1,false),(2,sl 1 qu a2,false),(3,sl 5 jd a3,false),(4,.vptr (.agg [.int .i64 a0.band,sl 3 vel a0.ladder]),false),(37,sl 3 vel a0.ladder,false),(38,.int .i64 ((a0.ladder.getD []).length:Int),false),(39,.int .i64 0,false)],[]⟩=some (.exit 0,⟨[(1,sl 8 qn a1,false),(2,sl 1 qu a2,false),(3,sl 5 jd a3,false),(4,.vptr (.agg [.int .i64 a0.band,sl 3 vel a0.ladder]),false),(37,sl 3 vel a0.ladder,false),(38,.int .i64 ((a0.ladder.getD []).length:Int),false),(39,.int .i64 d101,false),(40,.bool false,false)],[]⟩):=qy3 a0 a1 a2 a3 h99
    obtain ⟨v102,h103,h⟩:=qa h
    obtain ⟨v104,h105,h⟩:=qa h
    have wh105:qc pr (X pr) 164 [.agg [.int .i64 v102.w,.int .i64 v102.ln,.int .i64 v102.ld,.int .i64 v102.mn,.int .i64 v102.md],sl 3 vel a0.ladder]=some (.bool v104,false):=q0i h105
    obtain ⟨v106,h107,h⟩:=qa h
    have hr:v106=r:=Option.some.inj h
    subst hr
    refine qp rfl ?_ (fun _=>by first | rfl | simp only [go_sem,seval]) (by first | rfl | simp only [go_sem,seval])
    rw [qf (show pr.fns 141=some c141 from rfl) (by simp)]
    simp only [go_sem,seval,c141,h1,wh56,wh58,wh60,h61,wh99,qw h103,wh105,qb8 h107]
    exact ⟨_,rfl⟩
  ·have hr:v59=r:=Option.some.inj h
   subst hr
   refine qp rfl ?_ (fun _=>by first | rfl | simp only [go_sem,seval]) (by first | rfl | simp only [go_sem,seval])
   rw [qf (show pr.fns 141=some c141 from rfl) (by simp)]
   simp only [go_sem,seval,c141,h1,wh56,wh58,wh60,h61]
   exact ⟨_,rfl⟩
noncomputable def qig (a2:Option (List ja)) (v1:(Option (List (Option (List GEl)))) × Bool) (s0:Int) (s1:Int):Option (Int ⊕ ((Option (List GEl)) ⊕ Int)):=
 cond (decide (s1 < ((v1.1.getD []).length:Int)))
  (qd (j7 (v1.1.getD []) s1) fun v79=>
  qd (j7 (a2.getD []) s0) fun v81=>
  qd (f142 v79 v81) fun v83=>
  cond v83
   (some (.inl (qg .i64 (s1 + 1))))
   (some (.inr (.inl v79))))
  (some (.inr (.inr s1)))
def qnk (a2:Option (List ja)) (v1:(Option (List (Option (List GEl)))) × Bool) (s0:Int) (s1:Int):ASt:=⟨[(2,sl 5 jd a2,false),(6,.ptr 0 0,false),(8,sl 1 (sl 3 vel) v1.1,v1.2),(9,.int .i64 s0,false),(10,.int .i64 s1,false)],[.cells [(.int .i64 0,false),(.list true 0 [],false)]]⟩
def qrf (a2:Option (List ja)) (v1:(Option (List (Option (List GEl)))) × Bool) (s0:Int):(Option (List GEl)) ⊕ Int→jg × ASt
 | .inl d=>(.ret,⟨[(6,.ptr 0 0,false),(7,.bool true,false)],[.cells [(.int .i64 s0,false),(sl 3 vel d,false)]]⟩)
 | .inr d=>(.exit 2,⟨[(2,sl 5 jd a2,false),(6,.ptr 0 0,false),(8,sl 1 (sl 3 vel) v1.1,v1.2),(9,.int .i64 s0,false),(10,.int .i64 d,false),(23,.bool false,false)],[.cells [(.int .i64 0,false),(.list true 0 [],false)]]⟩)
theorem jmk (a2:Option (List ja)) (v1:(Option (List (Option (List GEl)))) × Bool) (s0:Int) (s1:Int) (r) (h:qig a2 v1 s0 s1=some r):zd pr qi3 (qnk a2 v1 s0) (qrf a2 v1 s0) s1 r:=by
 unfold qig at h
 rcases qb h with ⟨h78,h⟩ | ⟨h78,h⟩
 ·obtain ⟨v79,h80,h⟩:=qa h
  obtain ⟨v81,h82,h⟩:=qa h
  obtain ⟨v83,h84,h⟩:=qa h
  have wh84:qc pr (X pr) 142 [sl 3 vel v79,.agg [.int .i64 v81.w,.int .i64 v81.ln,.int .i64 v81.ld,.int .i64 v81.mn,.int .i64 v81.md]]=some (.bool v83,false):=jb9 h84
  rcases qb h with ⟨h85,h⟩ | ⟨h85,h⟩
  ·cases h
   exact qo (st':=⟨[(2,sl 5 jd a2,false),(6,.ptr 0 0,false),(8,sl 1 (sl 3 vel) v1.1,v1.2),(9,.int .i64 s0,false),(10,.int .i64 (qg .i64 (s1 + 1)),false)],[.cells [(.int .i64 0,false),(.list true 0 [],false)]]⟩) (by simp only [go_sem,seval,qi3,qnk,h78,qw h80,qw h82,wh84,h85] <;> rfl) (jc (Nat.le_refl _))
  ·cases h
   exact qj (by simp only [go_sem,seval,qi3,qnk,h78,qw h80,qw h82,wh84,h85,qrf] <;> rfl)
 ·cases h
  exact qj (by simp only [go_sem,seval,qi3,qnk,h78,qrf] <;> rfl)
theorem q7w (a2:Option (List ja)) (v1:(Option (List (Option (List GEl)))) × Bool) (s0:Int) {s1:Int} {d} (h:itO (qig a2 v1 s0) s1=some d):X pr (.loop qi3) (qnk a2 v1 s0 s1)=some (qrf a2 v1 s0 d):=zi (jmk a2 v1 s0) (fun d=>by rcases d with d|d <;> (intro hh; cases hh)) h
noncomputable def qir (a2:Option (List ja)) (v1:(Option (List (Option (List GEl)))) × Bool) (s0:Int):Option (Int ⊕ ((Int × (Option (List GEl))) ⊕ Int)):=
 cond (decide (s0 < ((a2.getD []).length:Int)))
  (qd (itO (qig a2 v1 s0) 0) fun d86=>match d86 with
   | .inl d88=>
    some (.inr (.inl (s0,d88)))
   | .inr d89=>
    some (.inl (qg .i64 (s0 + 1))))
  (some (.inr (.inr s0)))
def qnm (a2:Option (List ja)) (v1:(Option (List (Option (List GEl)))) × Bool) (s0:Int):ASt:=⟨[(2,sl 5 jd a2,false),(6,.ptr 0 0,false),(8,sl 1 (sl 3 vel) v1.1,v1.2),(9,.int .i64 s0,false)],[.cells [(.int .i64 0,false),(.list true 0 [],false)]]⟩
def qrp (a2:Option (List ja)) (v1:(Option (List (Option (List GEl)))) × Bool):(Int × (Option (List GEl))) ⊕ Int→jg × ASt
 | .inl d=>(.ret,⟨[(6,.ptr 0 0,false),(7,.bool true,false)],[.cells [(.int .i64 d.1,false),(sl 3 vel d.2,false)]]⟩)
 | .inr d=>(.exit 0,⟨[(2,sl 5 jd a2,false),(6,.ptr 0 0,false),(8,sl 1 (sl 3 vel) v1.1,v1.2),(9,.int .i64 d,false),(17,.bool false,false)],[.cells [(.int .i64 0,false),(.list true 0 [],false)]]⟩)
theorem jjy (a2:Option (List ja)) (v1:(Option (List (Option (List GEl)))) × Bool) (s0:Int) (r) (h:qir a2 v1 s0=some r):zd pr qij (qnm a2 v1) (qrp a2 v1) s0 r:=by
 unfold qir at h
 rcases qb h with ⟨h61,h⟩ | ⟨h61,h⟩
 ·obtain ⟨d86,h87,h⟩:=qa h
  rcases d86 with d88 | d89
  ·have wh87:X pr (.loop qi3) ⟨[(2,sl 5 jd a2,false),(6,.ptr 0 0,false),(8,sl 1 (sl 3 vel) v1.1,v1.2),(9,.int .i64 s0,false),(10,.int .i64 0,false)],[.cells [(.int .i64 0,false),(.list true 0 [],false)]]⟩=some (.ret,⟨[(6,.ptr 0 0,false),(7,.bool true,false)],[.cells [(.int .i64 s0,false),(sl 3 vel d88,false)]]⟩):=q7w a2 v1 s0 h87
   cases h
   exact qj (by simp only [go_sem,seval,qij,qnm,h61,wh87,qrp] <;> rfl)
  ·have wh87:X pr (.loop qi3) ⟨[(2,sl 5 jd a2,false),(6,.ptr 0 0,false),(8,sl 1 (sl 3 vel) v1.1,v1.2),(9,.int .i64 s0,false),(10,.int .i64 0,false)],[.cells [(.int .i64 0,false),(.list true 0 [],false)]]⟩=some (.exit 2,⟨[(2,sl 5 jd a2,false),(6,.ptr 0 0,false),(8,sl 1 (sl 3 vel) v1.1,v1.2),(9,.int .i64 s0,false),(10,.int .i64 d89,false),(23,.bool false,false)],[.cells [(.int .i64 0,false),(.list true 0 [],false)]]⟩):=q7w a2 v1 s0 h87
   cases h
   exact qo (st':=⟨[(2,sl 5 jd a2,false),(6,.ptr 0 0,false),(8,sl 1 (sl 3 vel) v1.1,v1.2),(9,.int .i64 (qg .i64 (s0 + 1)),false)],[.cells [(.int .i64 0,false),(.list true 0 [],false)]]⟩) (by simp only [go_sem,seval,qij,qnm,h61,wh87] <;> rfl) (jc (Nat.le_refl _))
 ·cases h
  exact qj (by simp only [go_sem,seval,qij,qnm,h61,qrp] <;> rfl)
theorem q7v (a2:Option (List ja)) (v1:(Option (List (Option (List GEl)))) × Bool) {s0:Int} {d} (h:itO (qir a2 v1) s0=some d):X pr (.loop qij) (qnm a2 v1 s0)=some (qrp a2 v1 d):=zi (jjy a2 v1) (fun d=>by rcases d with d|d <;> (intro hh; cases hh)) h
noncomputable def f79 (a0:Option (List qi)) (a1:Option (List Int)) (a2:Option (List ja)):Option (jx × Bool):=
 qd (f112 a0 a1 false) fun v1=>
 qd (itO (qir a2 v1) 0) fun d90=>match d90 with
  | .inl d92=>
   some (⟨d92.1,d92.2⟩,true)
  | .inr d93=>
   some (⟨0,none⟩,false)
theorem W79 {a0:Option (List qi)} {a1:Option (List Int)} {a2:Option (List ja)} {r} (h:f79 a0 a1 a2=some r):qc pr (X pr) 79 [sl 8 qn a0,sl 1 qu a1,sl 5 jd a2]=some (.tup [.agg [.int .i64 r.1.band,sl 3 vel r.1.ladder],.bool r.2],false):=by
 unfold f79 at h
 obtain ⟨v1,h2,h⟩:=qa h
 obtain ⟨d90,h91,h⟩:=qa h
 rcases d90 with d92 | d93
 ·have wh91:X pr (.loop qij) ⟨[(2,sl 5 jd a2,false),(6,.ptr 0 0,false),(8,sl 1 (sl 3 vel) v1.1,v1.2),(9,.int .i64 0,false)],[.cells [(.int .i64 0,false),(.list true 0 [],false)]]⟩=some (.ret,⟨[(6,.ptr 0 0,false),(7,.bool true,false)],[.cells [(.int .i64 d92.1,false),(sl 3 vel d92.2,false)]]⟩):=q7v a2 v1 h91
  have hr:(⟨d92.1,d92.2⟩,true)=r:=Option.some.inj h
  subst hr
  refine qp rfl ?_ (fun _=>by first | rfl | simp only [go_sem,seval]) (by first | rfl | simp only [go_sem,seval])
  rw [qf (show pr.fns 79=some c79 from rfl) (by simp)]
  simp only [go_sem,seval,c79,jeh h2,wh91]
  exact ⟨_,rfl⟩
 ·have wh91:X pr (.loop qij) ⟨[(2,sl 5 jd a2,false),(6,.ptr 0 0,false),(8,sl 1 (sl 3 vel) v1.1,v1.2),(9,.int .i64 0,false)],[.cells [(.int .i64 0,false),(.list true 0 [],false)]]⟩=some (.exit 0,⟨[(2,sl 5 jd a2,false),(6,.ptr 0 0,false),(8,sl 1 (sl 3 vel) v1.1,v1.2),(9,.int .i64 d93,false),(17,.bool false,false)],[.cells [(.int .i64 0,false),(.list true 0 [],false)]]⟩):=q7v a2 v1 h91
  have hr:(⟨0,none⟩,false)=r:=Option.some.inj h
  subst hr
  refine qp rfl ?_ (fun _=>by first | rfl | simp only [go_sem,seval]) (by first | rfl | simp only [go_sem,seval])
  rw [qf (show pr.fns 79=some c79 from rfl) (by simp)]
  simp only [go_sem,seval,c79,jeh h2,wh91]
  exact ⟨_,rfl⟩
noncomputable def qgv (a0:Option (List qi)) (a1:Option (List Int)) (a2:Option (List ja)) (a3:jx) (s0:Int) (v69:(Option (List GEl)) × Bool) (s1:Bool × Int):Option ((Bool × Int) ⊕ ((Bool × Int))):=
 cond (decide (s1.2 < ((v69.1.getD []).length:Int)))
  (cond s1.1
   (some (.inl (true,qg .i64 (s1.2 + 1))))
   (qd (j7 (v69.1.getD []) s1.2) fun v84=>
   qd (j7 (a3.ladder.getD []) s0) fun v86=>
   some (.inl ((decide (v84.kind=v86.kind) && decide (v84.a=v86.a) && decide (v84.b=v86.b)),qg .i64 (s1.2 + 1)))))
  (some (.inr (s1.1,s1.2)))
def qmo (a0:Option (List qi)) (a1:Option (List Int)) (a2:Option (List ja)) (a3:jx) (s0:Int) (v69:(Option (List GEl)) × Bool) (s1:Bool × Int):ASt:=⟨[(0,sl 8 qn a0,false),(1,sl 1 qu a1,false),(2,sl 5 jd a2,false),(7,.vptr (.agg [.int .i64 a3.band,sl 3 vel a3.ladder]),false),(9,.int .i64 s0,false),(10,.bool s1.1,false),(11,sl 3 vel v69.1,v69.2),(12,.int .i64 s1.2,false)],[]⟩
def qv7 (a0:Option (List qi)) (a1:Option (List Int)) (a2:Option (List ja)) (a3:jx) (s0:Int) (v69:(Option (List GEl)) × Bool) (d:(Bool × Int)):jg × ASt:=(.exit 2,⟨[(0,sl 8 qn a0,false),(1,sl 1 qu a1,false),(2,sl 5 jd a2,false),(7,.vptr (.agg [.int .i64 a3.band,sl 3 vel a3.ladder]),false),(9,.int .i64 s0,false),(10,.bool d.1,false),(11,sl 3 vel v69.1,v69.2),(12,.int .i64 d.2,false),(46,.bool false,false)],[]⟩)
theorem jj5 (a0:Option (List qi)) (a1:Option (List Int)) (a2:Option (List ja)) (a3:jx) (s0:Int) (v69:(Option (List GEl)) × Bool) (s1:Bool × Int) (r) (h:qgv a0 a1 a2 a3 s0 v69 s1=some r):zd pr qky (qmo a0 a1 a2 a3 s0 v69) (qv7 a0 a1 a2 a3 s0 v69) s1 r:=by
 unfold qgv at h
 rcases qb h with ⟨h82,h⟩ | ⟨h82,h⟩
 ·rcases qb h with ⟨h83,h⟩ | ⟨h83,h⟩
  ·cases h
   exact qo (st':=⟨[(0,sl 8 qn a0,false),(1,sl 1 qu a1,false),(2,sl 5 jd a2,false),(7,.vptr (.agg [.int .i64 a3.band,sl 3 vel a3.ladder]),false),(9,.int .i64 s0,false),(10,.bool true,false),(11,sl 3 vel v69.1,v69.2),(12,.int .i64 (qg .i64 (s1.2 + 1)),false)],[]⟩) (by simp only [go_sem,seval,qky,qmo,h82,h83] <;> rfl) (jc (Nat.le_refl _))
  ·obtain ⟨v84,h85,h⟩:=qa h
   obtain ⟨v86,h87,h⟩:=qa h
   cases h
   exact qo (st':=⟨[(0,sl 8 qn a0,false),(1,sl 1 qu a1,false),(2,sl 5 jd a2,false),(7,.vptr (.agg [.int .i64 a3.band,sl 3 vel a3.ladder]),false),(9,.int .i64 s0,false),(10,.bool (decide (v84.kind=v86.kind) && decide (v84.a=v86.a) && decide (v84.b=v86.b)),false),(11,sl 3 vel v69.1,v69.2),(12,.int .i64 (qg .i64 (s1.2 + 1)),false)],[]⟩) (by simp only [go_sem,seval,qky,qmo,h82,h83,qw h85,qw h87] <;> rfl) (jc (Nat.le_refl _))
 ·cases h
  exact qj (by simp only [go_sem,seval,qky,qmo,h82,qv7] <;> rfl)
theorem ji9 (a0:Option (List qi)) (a1:Option (List Int)) (a2:Option (List ja)) (a3:jx) (s0:Int) (v69:(Option (List GEl)) × Bool) {s1:Bool × Int} {d} (h:itO (qgv a0 a1 a2 a3 s0 v69) s1=some d):X pr (.loop qky) (qmo a0 a1 a2 a3 s0 v69 s1)=some (qv7 a0 a1 a2 a3 s0 v69 d):=zi (jj5 a0 a1 a2 a3 s0 v69) (fun d hh=>by cases hh) h
noncomputable def qk3 (a0:Option (List qi)) (a1:Option (List Int)) (a2:Option (List ja)) (a3:jx) (s0:Int):Option (Int ⊕ (Unit ⊕ Int)):=
 cond (decide (s0 < ((a1.getD []).length:Int)))
  (qd (j7 (a1.getD []) s0) fun v65=>
  qd (j7 (a0.getD []) v65) fun v67=>
  qd (f104 v67) fun v69=>
  qd (itO (qgv a0 a1 a2 a3 s0 v69) (false,0)) fun d88=>
  cond d88.1
   (some (.inl (qg .i64 (s0 + 1))))
   (some (.inr (.inl ()))))
  (some (.inr (.inr s0)))
def qmx (a0:Option (List qi)) (a1:Option (List Int)) (a2:Option (List ja)) (a3:jx) (s0:Int):ASt:=⟨[(0,sl 8 qn a0,false),(1,sl 1 qu a1,false),(2,sl 5 jd a2,false),(7,.vptr (.agg [.int .i64 a3.band,sl 3 vel a3.ladder]),false),(9,.int .i64 s0,false)],[]⟩
def qqa (a0:Option (List qi)) (a1:Option (List Int)) (a2:Option (List ja)) (a3:jx):Unit ⊕ Int→jg × ASt
 | .inl d=>(.ret,⟨[(8,.int .i64 1,false)],[]⟩)
 | .inr d=>(.exit 0,⟨[(0,sl 8 qn a0,false),(1,sl 1 qu a1,false),(2,sl 5 jd a2,false),(7,.vptr (.agg [.int .i64 a3.band,sl 3 vel a3.ladder]),false),(9,.int .i64 d,false),(32,.bool false,false)],[]⟩)
theorem jix (a0:Option (List qi)) (a1:Option (List Int)) (a2:Option (List ja)) (a3:jx) (s0:Int) (r) (h:qk3 a0 a1 a2 a3 s0=some r):zd pr qid (qmx a0 a1 a2 a3) (qqa a0 a1 a2 a3) s0 r:=by
 unfold qk3 at h
 rcases qb h with ⟨h64,h⟩ | ⟨h64,h⟩
 ·obtain ⟨v65,h66,h⟩:=qa h
  obtain ⟨v67,h68,h⟩:=qa h
  obtain ⟨v69,h70,h⟩:=qa h
  have wh70:qc pr (X pr) 104 [.agg [.str v67.name,.str v67.kd,.int .i64 v67.pa,.int .i64 v67.pb,.int .i64 v67.sa,.int .i64 v67.sb,.int .i64 v67.cost,.int .i64 v67.stock]]=some (sl 3 vel v69.1,v69.2):=q6t h70
  obtain ⟨d88,h89,h⟩:=qa h
  have wh89:X pr (.loop qky) ⟨[(0,sl 8 qn a0,false),(1,sl 1 qu a1,false),(2,sl 5 jd a2,false),(7,.vptr (.agg [.int .i64 a3.band,sl 3 vel a3.ladder]),false),(9,.int .i64 s0,false),(10,.bool false,false),(11,sl 3 vel v69.1,v69.2),(12,.int .i64 0,false)],[]⟩=some (.exit 2,⟨[(0,sl 8 qn a0,false),(1,sl 1 qu a1,false),(2,sl 5 jd a2,false),(7,.vptr (.agg [.int .i64 a3.band,sl 3 vel a3.ladder]),false),(9,.int .i64 s0,false),(10,.bool d88.1,false),(11,sl 3 vel v69.1,v69.2),(12,.int .i64 d88.2,false),(46,.bool false,false)],[]⟩):=ji9 a0 a1 a2 a3 s0 v69 h89
  rcases qb h with ⟨h90,h⟩ | ⟨h90,h⟩
  ·cases h
   exact qo (st':=⟨[(0,sl 8 qn a0,false),(1,sl 1 qu a1,false),(2,sl 5 jd a2,false),(7,.vptr (.agg [.int .i64 a3.band,sl 3 vel a3.ladder]),false),(9,.int .i64 (qg .i64 (s0 + 1)),false)],[]⟩) (by simp only [go_sem,seval,qid,qmx,h64,qw h66,qw h68,wh70,wh89,h90] <;> rfl) (jc (Nat.le_refl _))
  ·cases h
   exact qj (by simp only [go_sem,seval,qid,qmx,h64,qw h66,qw h68,wh70,wh89,h90,qqa] <;> rfl)
 ·cases h
  exact qj (by simp only [go_sem,seval,qid,qmx,h64,qqa] <;> rfl)
theorem q7h (a0:Option (List qi)) (a1:Option (List Int)) (a2:Option (List ja)) (a3:jx) {s0:Int} {d} (h:itO (qk3 a0 a1 a2 a3) s0=some d):X pr (.loop qid) (qmx a0 a1 a2 a3 s0)=some (qqa a0 a1 a2 a3 d):=zi (jix a0 a1 a2 a3) (fun d=>by rcases d with d|d <;> (intro hh; cases hh)) h
noncomputable def f80 (a0:Option (List qi)) (a1:Option (List Int)) (a2:Option (List ja)) (a3:jx):Option Int:=
 cond (decide (a3.band < 0))
  (some 10)
  (cond (decide (((a2.getD []).length:Int)≤a3.band))
   (some 10)
   (cond (decide (((a3.ladder.getD []).length:Int)=((a1.getD []).length:Int)))
    (qd (itO (qk3 a0 a1 a2 a3) 0) fun d91=>match d91 with
     | .inl d93=>
      some 1
     | .inr d94=>
      qd (j7 (a2.getD []) a3.band) fun v95=>
      qd (f142 a3.ladder v95) fun v97=>
      qd (f101 v97 22) fun v99=>
      some v99)
    (some 2)))
theorem W80 {a0:Option (List qi)} {a1:Option (List Int)} {a2:Option (List ja)} {a3:jx} {r} (h:f80 a0 a1 a2 a3=some r):qc pr (X pr) 80 [sl 8 qn a0,sl 1 qu a1,sl 5 jd a2,.agg [.int .i64 a3.band,sl 3 vel a3.ladder]]=some (.int .i64 r,false):=by
 unfold f80 at h
 rcases qb h with ⟨h1,h⟩ | ⟨h1,h⟩
 ·have hr:10=r:=Option.some.inj h
  subst hr
  refine qp rfl ?_ (fun _=>by first | rfl | simp only [go_sem,seval]) (by first | rfl | simp only [go_sem,seval])
  rw [qf (show pr.fns 80=some c80 from rfl) (by simp)]
  simp only [go_sem,seval,c80,h1]
  exact ⟨_,rfl⟩
 ·rcases qb h with ⟨h2,h⟩ | ⟨h2,h⟩
  ·have hr:10=r:=Option.some.inj h
   subst hr
   refine qp rfl ?_ (fun _=>by first | rfl | simp only [go_sem,seval]) (by first | rfl | simp only [go_sem,seval])
   rw [qf (show pr.fns 80=some c80 from rfl) (by simp)]
   simp only [go_sem,seval,c80,h1,h2]
   exact ⟨_,rfl⟩
  ·rcases qb h with ⟨h3,h⟩ | ⟨h3,h⟩
   ·obtain ⟨d91,h92,h⟩:=qa h
    rcases d91 with d93 | d94
    ·have wh92:X pr (.loop qid) ⟨[(0,sl 8 qn a0,false),(1,sl 1 qu a1,false),(2,sl 5 jd a2,false),(7,.vptr (.agg [.int .i64 a3.band,sl 3 vel a3.ladder]),false),(9,.int .i64 0,false)],[]⟩=some (.ret,⟨[(8,.int .i64 1,false)],[]⟩):=q7h a0 a1 a2 a3 h92
     have hr:1=r:=Option.some.inj h
     subst hr
     refine qp rfl ?_ (fun _=>by first | rfl | simp only [go_sem,seval]) (by first | rfl | simp only [go_sem,seval])
     rw [qf (show pr.fns 80=some c80 from rfl) (by simp)]
     simp only [go_sem,seval,c80,h1,h2,h3,wh92]
     exact ⟨_,rfl⟩
    ·have wh92:X pr (.loop qid) ⟨[(0,sl 8 qn a0,false),(1,sl 1 qu a1,false),(2,sl 5 jd a2,false),(7,.vptr (.agg [.int .i64 a3.band,sl 3 vel a3.ladder]),false),(9,.int .i64 0,false)],[]⟩=some (.exit 0,⟨[(0,sl 8 qn a0,false),(1,sl 1 qu a1,false),(2,sl 5 jd a2,false),(7,.vptr (.agg [.int .i64 a3.band,sl 3 vel a3.ladder]),false),(9,.int .i64 d94,false),(32,.bool false,false)],[]⟩):=q7h a0 a1 a2 a3 h92
     obtain ⟨v95,h96,h⟩:=qa h
     obtain ⟨v97,h98,h⟩:=qa h
     have wh98:qc pr (X pr) 142 [sl 3 vel a3.ladder,.agg [.int .i64 v95.w,.int .i64 v95.ln,.int .i64 v95.ld,.int .i64 v95.mn,.int .i64 v95.md]]=some (.bool v97,false):=jb9 h98
     obtain ⟨v99,h100,h⟩:=qa h
     have hr:v99=r:=Option.some.inj h
     subst hr
     refine qp rfl ?_ (fun _=>by first | rfl | simp only [go_sem,seval]) (by first | rfl | simp only [go_sem,seval])
     rw [qf (show pr.fns 80=some c80 from rfl) (by simp)]
     simp only [go_sem,seval,c80,h1,h2,h3,wh92,qw h96,wh98,q44 h100]
     exact ⟨_,rfl⟩
   ·have hr:2=r:=Option.some.inj h
    subst hr
    refine qp rfl ?_ (fun _=>by first | rfl | simp only [go_sem,seval]) (by first | rfl | simp only [go_sem,seval])
    rw [qf (show pr.fns 80=some c80 from rfl) (by simp)]
    simp only [go_sem,seval,c80,h1,h2,h3]
    exact ⟨_,rfl⟩
end Go.Z
