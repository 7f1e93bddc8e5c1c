/- Chapter 4. -/
import Derived.Test.YtnjngdcbkkonnaaGreatDoorA8
set_option linter.unusedVariables false
set_option linter.unusedSimpArgs false
set_option maxRecDepth 100000
set_option maxHeartbeats 4000000
namespace Go.Z
open Go Go.Abs
noncomputable def f164 (a0:jm) (a1:Option (List GEl)):Option Bool:=
 qe (f57 a1 a0.w) fun v1=>
 cond (decide (v1.2=0))
  (qe (f127 (⟨a0.ln,a0.ld⟩) v1.1) fun v4=>
  cond v4
   (some false)
   (qe (f127 v1.1 (⟨a0.mn,a0.md⟩)) fun v7=>
   some (!v7)))
  (some false)
theorem jd7 {a0:jm} {a1:Option (List GEl)} {r} (h:f164 a0 a1=some r):qc pr (X pr) 164 [.agg [.int .i64 a0.w,.int .i64 a0.ln,.int .i64 a0.ld,.int .i64 a0.mn,.int .i64 a0.md],sl 3 vel a1]=some (.bool r,false):=by
 unfold f164 at h
 obtain ⟨v1,h2,h⟩:=qa h
 have wh2:qc pr (X pr) 57 [sl 3 vel a1,.int .i64 a0.w]=some (.tup [.agg [.int .i64 v1.1.num,.int .i64 v1.1.den],.int .i64 v1.2],false):=W57 h2
 rcases qb h with ⟨h3,h⟩ | ⟨h3,h⟩
 ·obtain ⟨v4,h5,h⟩:=qa h
  have wh5:qc pr (X pr) 127 [.agg [.int .i64 a0.ln,.int .i64 a0.ld],.agg [.int .i64 v1.1.num,.int .i64 v1.1.den]]=some (.bool v4,false):=qv9 h5
  rcases qb h with ⟨h6,h⟩ | ⟨h6,h⟩
  ·have hr:false=r:=Option.some.inj h
   subst hr
   refine qy rfl ?_ (fun _=>by first | rfl | simp only [go_sem,seval]) (by first | rfl | simp only [go_sem,seval])
   rw [qh (show pr.fns 164=some c164 from rfl) (by simp)]
   simp only [go_sem,seval,c164,wh2,h3,wh5,h6]
   exact ⟨_,rfl⟩
  ·obtain ⟨v7,h8,h⟩:=qa h
   have wh8:qc pr (X pr) 127 [.agg [.int .i64 v1.1.num,.int .i64 v1.1.den],.agg [.int .i64 a0.mn,.int .i64 a0.md]]=some (.bool v7,false):=qv9 h8
   have hr:(!v7)=r:=Option.some.inj h
   subst hr
   refine qy rfl ?_ (fun _=>by first | rfl | simp only [go_sem,seval]) (by first | rfl | simp only [go_sem,seval])
   rw [qh (show pr.fns 164=some c164 from rfl) (by simp)]
   simp only [go_sem,seval,c164,wh2,h3,wh5,h6,wh8]
   exact ⟨_,rfl⟩
 ·have hr:false=r:=Option.some.inj h
  subst hr
  refine qy rfl ?_ (fun _=>by first | rfl | simp only [go_sem,seval]) (by first | rfl | simp only [go_sem,seval])
  rw [qh (show pr.fns 164=some c164 from rfl) (by simp)]
  simp only [go_sem,seval,c164,wh2,h3]
  exact ⟨_,rfl⟩
noncomputable def f143 (a0:GRat):Option Int:=
 qe (f109 a0.num 0 1000) fun v1=>
 qe (f109 a0.den 1 1000) fun v3=>
 qe (f105 (some [v1,v3])) fun v5=>
 cond (decide (v5=0))
  (qe (f125 a0.num a0.den) fun v8=>
  qe (f106 (!(decide (a0.num=v8.num) && decide (a0.den=v8.den))) 1) fun v10=>
  some v10)
  (some v5)
theorem je1 {a0:GRat} {r} (h:f143 a0=some r):qc pr (X pr) 143 [.agg [.int .i64 a0.num,.int .i64 a0.den]]=some (.int .i64 r,false):=by
 unfold f143 at h
 obtain ⟨v1,h2,h⟩:=qa h
 have wh2:qc pr (X pr) 109 [.int .i64 a0.num,.int .i64 0,.int .i64 1000]=some (.int .i64 v1,false):=qp4 h2
 obtain ⟨v3,h4,h⟩:=qa h
 have wh4:qc pr (X pr) 109 [.int .i64 a0.den,.int .i64 1,.int .i64 1000]=some (.int .i64 v3,false):=qp4 h4
 obtain ⟨v5,h6,h⟩:=qa h
 have wh6:qc pr (X pr) 105 [.list false 1 [.int .i64 v1,.int .i64 v3]]=some (.int .i64 v5,false):=qln h6
 rcases qb h with ⟨h7,h⟩ | ⟨h7,h⟩
 ·obtain ⟨v8,h9,h⟩:=qa h
  have wh9:qc pr (X pr) 125 [.int .i64 a0.num,.int .i64 a0.den]=some (.agg [.int .i64 v8.num,.int .i64 v8.den],false):=jrj h9
  obtain ⟨v10,h11,h⟩:=qa h
  have wh11:qc pr (X pr) 106 [.bool (!(decide (a0.num=v8.num) && decide (a0.den=v8.den))),.int .i64 1]=some (.int .i64 v10,false):=qhu h11
  have hr:v10=r:=Option.some.inj h
  subst hr
  refine qy rfl ?_ (fun _=>by first | rfl | simp only [go_sem,seval]) (by first | rfl | simp only [go_sem,seval])
  rw [qh (show pr.fns 143=some c143 from rfl) (by simp)]
  simp only [go_sem,seval,c143,wh2,wh4,wh6,h7,wh9,wh11]
  exact ⟨_,rfl⟩
 ·have hr:v5=r:=Option.some.inj h
  subst hr
  refine qy rfl ?_ (fun _=>by first | rfl | simp only [go_sem,seval]) (by first | rfl | simp only [go_sem,seval])
  rw [qh (show pr.fns 143=some c143 from rfl) (by simp)]
  simp only [go_sem,seval,c143,wh2,wh4,wh6,h7]
  exact ⟨_,rfl⟩
noncomputable def qi1 (a0:Option (List jm)) (s0:Int × Int):Option ((Int × Int) ⊕ ((Int × Int × Int × Int × Int × Int) ⊕ (Int × Int))):=
 cond (decide (s0.2 < ((a0.getD []).length:Int)))
  (qe (zw (a0.getD []) s0.2) fun v41=>
  qe (f122 v41.w) fun v43=>
  qe (f143 (⟨v41.ln,v41.ld⟩)) fun v45=>
  qe (f143 (⟨v41.mn,v41.md⟩)) fun v47=>
  qe (f105 (some [v43,v45,v47])) fun v49=>
  cond (decide (v49=0))
   (qe (f127 (⟨v41.ln,v41.ld⟩) (⟨v41.mn,v41.md⟩)) fun v52=>
   cond v52
    (some (.inr (.inl (11,v41.w,v41.ln,v41.ld,v41.mn,v41.md))))
    (cond (decide (v41.w≤s0.1))
     (some (.inr (.inl (11,v41.w,v41.ln,v41.ld,v41.mn,v41.md))))
     (some (.inl (v41.w,qf .i64 (s0.2 + 1))))))
   (some (.inr (.inl (v49,v41.w,v41.ln,v41.ld,v41.mn,v41.md)))))
  (some (.inr (.inr (s0.1,s0.2))))
def qem (a0:Option (List jm)) (s0:Int × Int):ASt:=⟨[(4,.int .i64 s0.1,false),(21,sl 5 jg a0,false),(22,.int .i64 ((a0.getD []).length:Int),false),(23,.int .i64 s0.2,false)],[]⟩
def qks (a0:Option (List jm)):(Int × Int × Int × Int × Int × Int) ⊕ (Int × Int)→ji × ASt
 | .inl d=>(.ret,⟨[(2,.int .i64 d.1,false)],[.cells [(.int .i64 d.2.1,false),(.int .i64 d.2.2.1,false),(.int .i64 d.2.2.2.1,false),(.int .i64 d.2.2.2.2.1,false),(.int .i64 d.2.2.2.2.2,false)]]⟩)
 | .inr d=>(.exit 0,⟨[(4,.int .i64 d.1,false),(21,sl 5 jg a0,false),(22,.int .i64 ((a0.getD []).length:Int),false),(23,.int .i64 d.2,false),(24,.bool false,false)],[]⟩)
theorem jjh (a0:Option (List jm)) (s0:Int × Int) (r) (h:qi1 a0 s0=some r):zj pr qft (qem a0) (qks a0) s0 r:=by
 unfold qi1 at h
 rcases qb h with ⟨h40,h⟩ | ⟨h40,h⟩
 ·obtain ⟨v41,h42,h⟩:=qa h
  obtain ⟨v43,h44,h⟩:=qa h
  have wh44:qc pr (X pr) 122 [.int .i64 v41.w]=some (.int .i64 v43,false):=jec h44
  obtain ⟨v45,h46,h⟩:=qa h
  have wh46:qc pr (X pr) 143 [.agg [.int .i64 v41.ln,.int .i64 v41.ld]]=some (.int .i64 v45,false):=je1 h46
  obtain ⟨v47,h48,h⟩:=qa h
  have wh48:qc pr (X pr) 143 [.agg [.int .i64 v41.mn,.int .i64 v41.md]]=some (.int .i64 v47,false):=je1 h48
  obtain ⟨v49,h50,h⟩:=qa h
  have wh50:qc pr (X pr) 105 [.list false 1 [.int .i64 v43,.int .i64 v45,.int .i64 v47]]=some (.int .i64 v49,false):=qln h50
  rcases qb h with ⟨h51,h⟩ | ⟨h51,h⟩
  ·obtain ⟨v52,h53,h⟩:=qa h
   have wh53:qc pr (X pr) 127 [.agg [.int .i64 v41.ln,.int .i64 v41.ld],.agg [.int .i64 v41.mn,.int .i64 v41.md]]=some (.bool v52,false):=qv9 h53
   rcases qb h with ⟨h54,h⟩ | ⟨h54,h⟩
   ·cases h
    exact qj (by simp only [go_sem,seval,qft,qem,h40,q9 h42,wh44,wh46,wh48,wh50,h51,wh53,h54,qks] <;> rfl)
   ·rcases qb h with ⟨h55,h⟩ | ⟨h55,h⟩
    ·cases h
     exact qj (by simp only [go_sem,seval,qft,qem,h40,q9 h42,wh44,wh46,wh48,wh50,h51,wh53,h54,h55,qks] <;> rfl)
    ·cases h
     exact qq (st':=⟨[(4,.int .i64 v41.w,false),(21,sl 5 jg a0,false),(22,.int .i64 ((a0.getD []).length:Int),false),(23,.int .i64 (qf .i64 (s0.2 + 1)),false)],[]++[.cells [(.int .i64 v41.w,false),(.int .i64 v41.ln,false),(.int .i64 v41.ld,false),(.int .i64 v41.mn,false),(.int .i64 v41.md,false)]]⟩) (by simp only [go_sem,seval,qft,qem,h40,q9 h42,wh44,wh46,wh48,wh50,h51,wh53,h54,h55] <;> rfl) (zz rfl rfl (by first | simp only [go_sem,seval,qem] | rfl) (by first | simp only [go_sem,seval,qem] | rfl))
  ·cases h
   exact qj (by simp only [go_sem,seval,qft,qem,h40,q9 h42,wh44,wh46,wh48,wh50,h51,qks] <;> rfl)
 ·cases h
  exact qj (by simp only [go_sem,seval,qft,qem,h40,qks] <;> rfl)
theorem q9e (a0:Option (List jm)) {s0:Int × Int} {d} (h:itO (qi1 a0) s0=some d):X pr (.loop qft) (qem a0 s0)=some (qks a0 d):=z7 (jjh a0) (fun d=>by rcases d with d|d <;> (intro hh; cases hh)) h
noncomputable def f81 (a0:Option (List jm)):Option Int:=
 qe (f106 (decide (((a0.getD []).length:Int)=0)) 12) fun v1=>
 qe (f106 (decide (8 < ((a0.getD []).length:Int))) 5) fun v3=>
 qe (f105 (some [v1,v3])) fun v5=>
 cond (decide (v5=0))
  (qe (itO (qi1 a0) (0,0)) fun d56=>match d56 with
   | .inl d58=>
    some d58.1
   | .inr d59=>
    some 0)
  (some v5)
theorem W81 {a0:Option (List jm)} {r} (h:f81 a0=some r):qc pr (X pr) 81 [sl 5 jg a0]=some (.int .i64 r,false):=by
 unfold f81 at h
 obtain ⟨v1,h2,h⟩:=qa h
 have wh2:qc pr (X pr) 106 [.bool (decide (((a0.getD []).length:Int)=0)),.int .i64 12]=some (.int .i64 v1,false):=qhu h2
 obtain ⟨v3,h4,h⟩:=qa h
 have wh4:qc pr (X pr) 106 [.bool (decide (8 < ((a0.getD []).length:Int))),.int .i64 5]=some (.int .i64 v3,false):=qhu h4
 obtain ⟨v5,h6,h⟩:=qa h
 have wh6:qc pr (X pr) 105 [.list false 1 [.int .i64 v1,.int .i64 v3]]=some (.int .i64 v5,false):=qln h6
 rcases qb h with ⟨h7,h⟩ | ⟨h7,h⟩
 ·obtain ⟨d56,h57,h⟩:=qa h
  rcases d56 with d58 | d59
  ·have wh57:X pr (.loop qft) ⟨[(4,.int .i64 0,false),(21,sl 5 jg a0,false),(22,.int .i64 ((a0.getD []).length:Int),false),(23,.int .i64 0,false)],[]⟩=some (.ret,⟨[(2,.int .i64 d58.1,false)],[.cells [(.int .i64 d58.2.1,false),(.int .i64 d58.2.2.1,false),(.int .i64 d58.2.2.2.1,false),(.int .i64 d58.2.2.2.2.1,false),(.int .i64 d58.2.2.2.2.2,false)]]⟩):=q9e a0 h57
   have hr:d58.1=r:=Option.some.inj h
   subst hr
   refine qy rfl ?_ (fun _=>by first | rfl | simp only [go_sem,seval]) (by first | rfl | simp only [go_sem,seval])
   rw [qh (show pr.fns 81=some c81 from rfl) (by simp)]
   simp only [go_sem,seval,c81,wh2,wh4,wh6,h7,wh57]
   exact ⟨_,rfl⟩
  ·have wh57:X pr (.loop qft) ⟨[(4,.int .i64 0,false),(21,sl 5 jg a0,false),(22,.int .i64 ((a0.getD []).length:Int),false),(23,.int .i64 0,false)],[]⟩=some (.exit 0,⟨[(4,.int .i64 d59.1,false),(21,sl 5 jg a0,false),(22,.int .i64 ((a0.getD []).length:Int),false),(23,.int .i64 d59.2,false),(24,.bool false,false)],[]⟩):=q9e a0 h57
   have hr:0=r:=Option.some.inj h
   subst hr
   refine qy rfl ?_ (fun _=>by first | rfl | simp only [go_sem,seval]) (by first | rfl | simp only [go_sem,seval])
   rw [qh (show pr.fns 81=some c81 from rfl) (by simp)]
   simp only [go_sem,seval,c81,wh2,wh4,wh6,h7,wh57]
   exact ⟨_,rfl⟩
 ·have hr:v5=r:=Option.some.inj h
  subst hr
  refine qy rfl ?_ (fun _=>by first | rfl | simp only [go_sem,seval]) (by first | rfl | simp only [go_sem,seval])
  rw [qh (show pr.fns 81=some c81 from rfl) (by simp)]
  simp only [go_sem,seval,c81,wh2,wh4,wh6,h7]
  exact ⟨_,rfl⟩
noncomputable def f118 (a0:GRat):Option Int:=
 qe (f40 a0.num 0 1000) fun v1=>
 qe (f40 a0.den 1 1000) fun v3=>
 qe (f100 (some [v1,v3])) fun v5=>
 cond (decide (v5=0))
  (qe (f66 a0.num a0.den) fun v8=>
  qe (f101 (!(decide (a0.num=v8.num) && decide (a0.den=v8.den))) 1) fun v10=>
  some v10)
  (some v5)
theorem jeo {a0:GRat} {r} (h:f118 a0=some r):qc pr (X pr) 118 [.agg [.int .i64 a0.num,.int .i64 a0.den]]=some (.int .i64 r,false):=by
 unfold f118 at h
 obtain ⟨v1,h2,h⟩:=qa h
 have wh2:qc pr (X pr) 40 [.int .i64 a0.num,.int .i64 0,.int .i64 1000]=some (.int .i64 v1,false):=W40 h2
 obtain ⟨v3,h4,h⟩:=qa h
 have wh4:qc pr (X pr) 40 [.int .i64 a0.den,.int .i64 1,.int .i64 1000]=some (.int .i64 v3,false):=W40 h4
 obtain ⟨v5,h6,h⟩:=qa h
 have wh6:qc pr (X pr) 100 [.list false 1 [.int .i64 v1,.int .i64 v3]]=some (.int .i64 v5,false):=qwh h6
 rcases qb h with ⟨h7,h⟩ | ⟨h7,h⟩
 ·obtain ⟨v8,h9,h⟩:=qa h
  have wh9:qc pr (X pr) 66 [.int .i64 a0.num,.int .i64 a0.den]=some (.agg [.int .i64 v8.num,.int .i64 v8.den],false):=W66 h9
  obtain ⟨v10,h11,h⟩:=qa h
  have wh11:qc pr (X pr) 101 [.bool (!(decide (a0.num=v8.num) && decide (a0.den=v8.den))),.int .i64 1]=some (.int .i64 v10,false):=jej h11
  have hr:v10=r:=Option.some.inj h
  subst hr
  refine qy rfl ?_ (fun _=>by first | rfl | simp only [go_sem,seval]) (by first | rfl | simp only [go_sem,seval])
  rw [qh (show pr.fns 118=some c118 from rfl) (by simp)]
  simp only [go_sem,seval,c118,wh2,wh4,wh6,h7,wh9,wh11]
  exact ⟨_,rfl⟩
 ·have hr:v5=r:=Option.some.inj h
  subst hr
  refine qy rfl ?_ (fun _=>by first | rfl | simp only [go_sem,seval]) (by first | rfl | simp only [go_sem,seval])
  rw [qh (show pr.fns 118=some c118 from rfl) (by simp)]
  simp only [go_sem,seval,c118,wh2,wh4,wh6,h7]
  exact ⟨_,rfl⟩
noncomputable def f119 (a0:GRat) (a1:GRat):Option Int:=
 cond (decide ((qf .i64 (a0.num * a1.den)) < (qf .i64 (a1.num * a0.den))))
  (some (-1))
  (cond (decide ((qf .i64 (a1.num * a0.den)) < (qf .i64 (a0.num * a1.den))))
   (some 1)
   (some 0))
theorem jrv {a0:GRat} {a1:GRat} {r} (h:f119 a0 a1=some r):qc pr (X pr) 119 [.agg [.int .i64 a0.num,.int .i64 a0.den],.agg [.int .i64 a1.num,.int .i64 a1.den]]=some (.int .i64 r,false):=by
 unfold f119 at h
 rcases qb h with ⟨h1,h⟩ | ⟨h1,h⟩
 ·have hr:(-1)=r:=Option.some.inj h
  subst hr
  refine qy rfl ?_ (fun _=>by first | rfl | simp only [go_sem,seval]) (by first | rfl | simp only [go_sem,seval])
  rw [qh (show pr.fns 119=some c119 from rfl) (by simp)]
  simp only [go_sem,seval,c119,h1]
  exact ⟨_,rfl⟩
 ·rcases qb h with ⟨h2,h⟩ | ⟨h2,h⟩
  ·have hr:1=r:=Option.some.inj h
   subst hr
   refine qy rfl ?_ (fun _=>by first | rfl | simp only [go_sem,seval]) (by first | rfl | simp only [go_sem,seval])
   rw [qh (show pr.fns 119=some c119 from rfl) (by simp)]
   simp only [go_sem,seval,c119,h1,h2]
   exact ⟨_,rfl⟩
  ·have hr:0=r:=Option.some.inj h
   subst hr
   refine qy rfl ?_ (fun _=>by first | rfl | simp only [go_sem,seval]) (by first | rfl | simp only [go_sem,seval])
   rw [qh (show pr.fns 119=some c119 from rfl) (by simp)]
   simp only [go_sem,seval,c119,h1,h2]
   exact ⟨_,rfl⟩
noncomputable def qix (a0:Option (List jm)) (s0:Int):Option (Int ⊕ (Int ⊕ Int)):=
 cond (decide (s0 < ((a0.getD []).length:Int)))
  (qe (zw (a0.getD []) s0) fun v38=>
  qe (f34 v38.w) fun v40=>
  qe (f118 (⟨v38.ln,v38.ld⟩)) fun v42=>
  qe (f118 (⟨v38.mn,v38.md⟩)) fun v44=>
  qe (f100 (some [v40,v42,v44])) fun v46=>
  cond (decide (v46=0))
   (qe (f119 (⟨v38.ln,v38.ld⟩) (⟨v38.mn,v38.md⟩)) fun v49=>
   cond (decide (0 < v49))
    (some (.inr (.inl 11)))
    (cond (decide (0 < s0))
     (qe (zw (a0.getD []) (qf .i64 (s0 - 1))) fun v53=>
     cond (decide (v38.w≤v53.w))
      (some (.inr (.inl 11)))
      (some (.inl (qf .i64 (s0 + 1)))))
     (some (.inl (qf .i64 (s0 + 1))))))
   (some (.inr (.inl v46))))
  (some (.inr (.inr s0)))
def qgg (a0:Option (List jm)) (s0:Int):ASt:=⟨[(0,sl 5 jg a0,false),(3,.int .i64 s0,false)],[]⟩
def qko (a0:Option (List jm)):Int ⊕ Int→ji × ASt
 | .inl d=>(.ret,⟨[(2,.int .i64 d,false)],[]⟩)
 | .inr d=>(.exit 0,⟨[(0,sl 5 jg a0,false),(3,.int .i64 d,false),(14,.bool false,false)],[]⟩)
theorem jlg (a0:Option (List jm)) (s0:Int) (r) (h:qix a0 s0=some r):zj pr qew (qgg a0) (qko a0) s0 r:=by
 unfold qix at h
 rcases qb h with ⟨h37,h⟩ | ⟨h37,h⟩
 ·obtain ⟨v38,h39,h⟩:=qa h
  obtain ⟨v40,h41,h⟩:=qa h
  have wh41:qc pr (X pr) 34 [.int .i64 v38.w]=some (.int .i64 v40,false):=W34 h41
  obtain ⟨v42,h43,h⟩:=qa h
  have wh43:qc pr (X pr) 118 [.agg [.int .i64 v38.ln,.int .i64 v38.ld]]=some (.int .i64 v42,false):=jeo h43
  obtain ⟨v44,h45,h⟩:=qa h
  have wh45:qc pr (X pr) 118 [.agg [.int .i64 v38.mn,.int .i64 v38.md]]=some (.int .i64 v44,false):=jeo h45
  obtain ⟨v46,h47,h⟩:=qa h
  have wh47:qc pr (X pr) 100 [.list false 1 [.int .i64 v40,.int .i64 v42,.int .i64 v44]]=some (.int .i64 v46,false):=qwh h47
  rcases qb h with ⟨h48,h⟩ | ⟨h48,h⟩
  ·obtain ⟨v49,h50,h⟩:=qa h
   have wh50:qc pr (X pr) 119 [.agg [.int .i64 v38.ln,.int .i64 v38.ld],.agg [.int .i64 v38.mn,.int .i64 v38.md]]=some (.int .i64 v49,false):=jrv h50
   rcases qb h with ⟨h51,h⟩ | ⟨h51,h⟩
   ·cases h
    exact qj (by simp only [go_sem,seval,qew,qgg,h37,q9 h39,wh41,wh43,wh45,wh47,h48,wh50,h51,qko] <;> rfl)
   ·rcases qb h with ⟨h52,h⟩ | ⟨h52,h⟩
    ·obtain ⟨v53,h54,h⟩:=qa h
     rcases qb h with ⟨h55,h⟩ | ⟨h55,h⟩
     ·cases h
      exact qj (by simp only [go_sem,seval,qew,qgg,h37,q9 h39,wh41,wh43,wh45,wh47,h48,wh50,h51,h52,q9 h54,h55,qko] <;> rfl)
     ·cases h
      exact qq (st':=⟨[(0,sl 5 jg a0,false),(3,.int .i64 (qf .i64 (s0 + 1)),false)],[]⟩) (by simp only [go_sem,seval,qew,qgg,h37,q9 h39,wh41,wh43,wh45,wh47,h48,wh50,h51,h52,q9 h54,h55] <;> rfl) (jb (Nat.le_refl _))
    ·cases h
     exact qq (st':=⟨[(0,sl 5 jg a0,false),(3,.int .i64 (qf .i64 (s0 + 1)),false)],[]⟩) (by simp only [go_sem,seval,qew,qgg,h37,q9 h39,wh41,wh43,wh45,wh47,h48,wh50,h51,h52] <;> rfl) (jb (Nat.le_refl _))
  ·cases h
   exact qj (by simp only [go_sem,seval,qew,qgg,h37,q9 h39,wh41,wh43,wh45,wh47,h48,qko] <;> rfl)
 ·cases h
  exact qj (by simp only [go_sem,seval,qew,qgg,h37,qko] <;> rfl)
theorem q9i (a0:Option (List jm)) {s0:Int} {d} (h:itO (qix a0) s0=some d):X pr (.loop qew) (qgg a0 s0)=some (qko a0 d):=z7 (jlg a0) (fun d=>by rcases d with d|d <;> (intro hh; cases hh)) h
noncomputable def f39 (a0:Option (List jm)):Option Int:=
 cond (decide (((a0.getD []).length:Int)=0))
  (some 12)
  (cond (decide (8 < ((a0.getD []).length:Int)))
   (some 5)
   (qe (itO (qix a0) 0) fun d56=>match d56 with
    | .inl d58=>
     some d58
    | .inr d59=>
     some 0))
theorem W39 {a0:Option (List jm)} {r} (h:f39 a0=some r):qc pr (X pr) 39 [sl 5 jg a0]=some (.int .i64 r,false):=by
 unfold f39 at h
 rcases qb h with ⟨h1,h⟩ | ⟨h1,h⟩
 ·have hr:12=r:=Option.some.inj h
  subst hr
  refine qy rfl ?_ (fun _=>by first | rfl | simp only [go_sem,seval]) (by first | rfl | simp only [go_sem,seval])
  rw [qh (show pr.fns 39=some c39 from rfl) (by simp)]
  simp only [go_sem,seval,c39,h1]
  exact ⟨_,rfl⟩
 ·rcases qb h with ⟨h2,h⟩ | ⟨h2,h⟩
  ·have hr:5=r:=Option.some.inj h
   subst hr
   refine qy rfl ?_ (fun _=>by first | rfl | simp only [go_sem,seval]) (by first | rfl | simp only [go_sem,seval])
   rw [qh (show pr.fns 39=some c39 from rfl) (by simp)]
   simp only [go_sem,seval,c39,h1,h2]
   exact ⟨_,rfl⟩
  ·obtain ⟨d56,h57,h⟩:=qa h
   rcases d56 with d58 | d59
   ·have wh57:X pr (.loop qew) ⟨[(0,sl 5 jg a0,false),(3,.int .i64 0,false)],[]⟩=some (.ret,⟨[(2,.int .i64 d58,false)],[]⟩):=q9i a0 h57
    have hr:d58=r:=Option.some.inj h
    subst hr
    refine qy rfl ?_ (fun _=>by first | rfl | simp only [go_sem,seval]) (by first | rfl | simp only [go_sem,seval])
    rw [qh (show pr.fns 39=some c39 from rfl) (by simp)]
    simp only [go_sem,seval,c39,h1,h2,wh57]
    exact ⟨_,rfl⟩
   ·have wh57:X pr (.loop qew) ⟨[(0,sl 5 jg a0,false),(3,.int .i64 0,false)],[]⟩=some (.exit 0,⟨[(0,sl 5 jg a0,false),(3,.int .i64 d59,false),(14,.bool false,false)],[]⟩):=q9i a0 h57
    have hr:0=r:=Option.some.inj h
    subst hr
    refine qy rfl ?_ (fun _=>by first | rfl | simp only [go_sem,seval]) (by first | rfl | simp only [go_sem,seval])
    rw [qh (show pr.fns 39=some c39 from rfl) (by simp)]
    simp only [go_sem,seval,c39,h1,h2,wh57]
    exact ⟨_,rfl⟩
noncomputable def ql6 (a0:Option (List jm)) (s0:(Option (List jm)) × Int × Bool):Option (((Option (List jm)) × Int × Bool) ⊕ (((Option (List jm)) × Bool × Int))):=
 cond (decide (s0.2.1 < ((a0.getD []).length:Int)))
  (qe (zw (a0.getD []) s0.2.1) fun v14=>
  cond s0.2.2
   (qe (apO s0.1 [v14]) fun v17=>
   some (.inl (v17,qf .i64 (s0.2.1 + 1),true)))
   (cond s0.1.isNone
    (qe (apO s0.1 [v14]) fun v20=>
    some (.inl (v20,qf .i64 (s0.2.1 + 1),true)))
    (none)))
  (some (.inr (s0.1,s0.2.2,s0.2.1)))
def qey (a0:Option (List jm)) (s0:(Option (List jm)) × Int × Bool):ASt:=⟨[(3,sl 5 jg s0.1,s0.2.2),(6,sl 5 jg a0,false),(7,.int .i64 ((a0.getD []).length:Int),false),(8,.int .i64 s0.2.1,false)],[]⟩
def qwd (a0:Option (List jm)) (d:((Option (List jm)) × Bool × Int)):ji × ASt:=(.exit 0,⟨[(3,sl 5 jg d.1,d.2.1),(6,sl 5 jg a0,false),(7,.int .i64 ((a0.getD []).length:Int),false),(8,.int .i64 d.2.2,false),(9,.bool false,false)],[]⟩)
theorem jkk (a0:Option (List jm)) (s0:(Option (List jm)) × Int × Bool) (r) (h:ql6 a0 s0=some r):zj pr qlx (qey a0) (qwd a0) s0 r:=by
 unfold ql6 at h
 rcases qb h with ⟨h13,h⟩ | ⟨h13,h⟩
 ·obtain ⟨v14,h15,h⟩:=qa h
  rcases qb h with ⟨h16,h⟩ | ⟨h16,h⟩
  ·obtain ⟨v17,h18,h⟩:=qa h
   cases h
   exact qq (st':=⟨[(3,sl 5 jg v17,true),(6,sl 5 jg a0,false),(7,.int .i64 ((a0.getD []).length:Int),false),(8,.int .i64 (qf .i64 (s0.2.1 + 1)),false)],[]++[.cells [(.int .i64 v14.w,false),(.int .i64 v14.ln,false),(.int .i64 v14.ld,false),(.int .i64 v14.mn,false),(.int .i64 v14.md,false)]]⟩) (by simp only [go_sem,seval,qlx,qey,h13,q9 h15,h16,qzd h18] <;> rfl) (zz rfl rfl (by first | simp only [go_sem,seval,qey] | rfl) (by first | simp only [go_sem,seval,qey] | rfl))
  ·rcases qb h with ⟨h19,h⟩ | ⟨h19,h⟩
   ·obtain ⟨v20,h21,h⟩:=qa h
    cases h
    exact qq (st':=⟨[(3,sl 5 jg v20,true),(6,sl 5 jg a0,false),(7,.int .i64 ((a0.getD []).length:Int),false),(8,.int .i64 (qf .i64 (s0.2.1 + 1)),false)],[]++[.cells [(.int .i64 v14.w,false),(.int .i64 v14.ln,false),(.int .i64 v14.ld,false),(.int .i64 v14.mn,false),(.int .i64 v14.md,false)]]⟩) (by simp only [go_sem,seval,qlx,qey,h13,q9 h15,h16,h19,qzx h21 h19] <;> rfl) (zz rfl rfl (by first | simp only [go_sem,seval,qey] | rfl) (by first | simp only [go_sem,seval,qey] | rfl))
   ·cases h
 ·cases h
  exact qj (by simp only [go_sem,seval,qlx,qey,h13,qwd] <;> rfl)
theorem jm1 (a0:Option (List jm)) {s0:(Option (List jm)) × Int × Bool} {d} (h:itO (ql6 a0) s0=some d):X pr (.loop qlx) (qey a0 s0)=some (qwd a0 d):=z7 (jkk a0) (fun d hh=>by cases hh) h
noncomputable def f38 (a0:Option (List jm)):Option ((Option (List jm)) × Bool):=
 qe (itO (ql6 a0) (none,0,false)) fun d22=>
 some (d22.1,d22.2.1)
theorem W38 {a0:Option (List jm)} {r} (h:f38 a0=some r):qc pr (X pr) 38 [sl 5 jg a0]=some (sl 5 jg r.1,r.2):=by
 unfold f38 at h
 obtain ⟨d22,h23,h⟩:=qa h
 have wh23:X pr (.loop qlx) ⟨[(3,.list true 0 [],false),(6,sl 5 jg a0,false),(7,.int .i64 ((a0.getD []).length:Int),false),(8,.int .i64 0,false)],[]⟩=some (.exit 0,⟨[(3,sl 5 jg d22.1,d22.2.1),(6,sl 5 jg a0,false),(7,.int .i64 ((a0.getD []).length:Int),false),(8,.int .i64 d22.2.2,false),(9,.bool false,false)],[]⟩):=jm1 a0 h23
 have hr:(d22.1,d22.2.1)=r:=Option.some.inj h
 subst hr
 have this:∃ hh,jl pr (X pr) 38 [sl 5 jg a0] []=some (sl 5 jg d22.1,d22.2.1,hh):=by
  rw [qh (show pr.fns 38=some c38 from rfl) (by simp)]
  simp only [go_sem,seval,c38,wh23]
  exact ⟨_,rfl⟩
 obtain ⟨hh,this⟩:=this
 exact z6 rfl this (by first | rfl | simp only [go_sem,seval]) (by first | rfl | simp only [go_sem,seval]) (by first | rfl | simp only [go_sem,seval])
noncomputable def f54 (a0:yl):Option Int:=
 qe (f25 a0.parts) fun v1=>
 qe (f33 a0.parts a0.choice) fun v3=>
 qe (f39 a0.bands) fun v5=>
 qe (f32 (some [v1,v3,v5])) fun v7=>
 some v7
theorem W54 {a0:yl} {r} (h:f54 a0=some r):qc pr (X pr) 54 [.agg [sl 8 qm a0.parts,sl 1 qo a0.choice,sl 5 jg a0.bands]]=some (.int .i64 r,false):=by
 unfold f54 at h
 obtain ⟨v1,h2,h⟩:=qa h
 have wh2:qc pr (X pr) 25 [sl 8 qm a0.parts]=some (.int .i64 v1,false):=W25 h2
 obtain ⟨v3,h4,h⟩:=qa h
 have wh4:qc pr (X pr) 33 [sl 8 qm a0.parts,sl 1 qo a0.choice]=some (.int .i64 v3,false):=W33 h4
 obtain ⟨v5,h6,h⟩:=qa h
 have wh6:qc pr (X pr) 39 [sl 5 jg a0.bands]=some (.int .i64 v5,false):=W39 h6
 obtain ⟨v7,h8,h⟩:=qa h
 have wh8:qc pr (X pr) 32 [.list false 1 [.int .i64 v1,.int .i64 v3,.int .i64 v5]]=some (.int .i64 v7,false):=W32 h8
 have hr:v7=r:=Option.some.inj h
 subst hr
 refine qy rfl ?_ (fun _=>by first | rfl | simp only [go_sem,seval]) (by first | rfl | simp only [go_sem,seval])
 rw [qh (show pr.fns 54=some c54 from rfl) (by simp)]
 simp only [go_sem,seval,c54,wh2,wh4,wh6,wh8]
 exact ⟨_,rfl⟩
def qjf:ACode:=pcB (pcR (pcR (pcB (pcL (pcR (pcR qbi))))))
def qfs:ACode:=rfA qjf
def qdx:ACode:=rfB qjf
theorem q7d:qjf=.rangeFunc (.tmp 22) [23] qfs qdx:=rfl
section
variable (ps:Option (List qi)) (ch:Option (List Int)) (bs:Option (List jm)) (n i:Int) (b:jm)
def qb9:Env:=[(0,sl 8 qm ps,false),(1,sl 1 qo ch,false),(6,.ptr 0 0,false),(8,.ptr 1 0,false),(9,.ptr 2 0,false),(10,.ptr 3 0,false),(11,.ptr 4 0,false),(13,sl 5 jg bs,false),(14,.int .i64 n,false),(15,.int .i64 i,false),(22,.fn (.func 196) [] [.vptr (sl 1 qo ch),.vptr (sl 8 qm ps),.vptr (.bool false)],false)]
def qrf (x:Option (List GEl)):Env:=[(0,sl 8 qm ps,false),(1,sl 1 qo ch,false),(6,.ptr 0 0,false),(8,.ptr 1 0,false),(9,.ptr 2 0,false),(10,.ptr 3 0,false),(11,.ptr 4 0,false),(12,sl 3 vel x,false),(13,sl 5 jg bs,false),(14,.int .i64 n,false),(15,.int .i64 i,false),(23,sl 3 vel x,false)]
def c1s (i:Int) (x:Option (List GEl)):List (AVal × Bool):=[(.int .i64 i,false),(sl 3 vel x,false)]
def bcs (b:jm):List (AVal × Bool):=[(.int .i64 b.w,false),(.int .i64 b.ln,false),(.int .i64 b.ld,false),(.int .i64 b.mn,false),(.int .i64 b.md,false)]
def qcm (pd:Option ji):ABox:=.loop ⟨qb9 ps ch bs n i,[23],qfs,qdx,pd⟩
def qar (k:Int) (x:Option (List GEl)) (fd:Bool) (i:Int) (b:jm) (lp:ABox) (T:qk):qk:=.cells (c1s 0 none)::.cells (c1s k x)::.cells [(.bool fd,false)]::.cells [(.int .i64 i,false)]::.cells (bcs b)::lp::T
end
section
variable {ps:Option (List qi)} {ch:Option (List Int)} {bs:Option (List jm)} {n i k:Int} {b:jm} {x:Option (List GEl)} {fd:Bool} {lp:ABox} {T:qk}
theorem G1:(qar k x fd i b lp T)[1]?=some (.cells [(.int .i64 k,false),(sl 3 vel x,false)]):=rfl
theorem G2:(qar k x fd i b lp T)[2]?=some (.cells [(.bool fd,false)]):=rfl
theorem G3:(qar k x fd i b lp T)[3]?=some (.cells [(.int .i64 i,false)]):=rfl
theorem G4:(qar k x fd i b lp T)[4]?=some (.cells [(.int .i64 b.w,false),(.int .i64 b.ln,false),(.int .i64 b.ld,false),(.int .i64 b.mn,false),(.int .i64 b.md,false)]):=rfl
theorem J1:decide (1 < (qar k x fd i b lp T).length)=true:=rfl
theorem J2:decide (2 < (qar k x fd i b lp T).length)=true:=rfl
theorem J3:decide (3 < (qar k x fd i b lp T).length)=true:=rfl
theorem J4:decide (4 < (qar k x fd i b lp T).length)=true:=rfl
theorem Y1 {k':Int} {x':Option (List GEl)}:(qar k x fd i b lp T).set 1 (.cells [(.int .i64 k',false),(sl 3 vel x',false)])=qar k' x' fd i b lp T:=rfl
theorem Y2 {fd':Bool}:(qar k x fd i b lp T).set 2 (.cells [(.bool fd',false)])=qar k x fd' i b lp T:=rfl
theorem q4d {x':Option (List GEl)} (h:f164 b x'=some true):
  ∃ en,X pr qdx ⟨qrf ps ch bs n i x',qar k x fd i b lp T⟩=some (.normal,⟨en,qar k x fd i b lp T⟩):=by
 have g:=jd7 h
 simp only [go_sem,seval,qdx,rfB,qjf,pcB,pcL,pcR,qbi,qrf,g,G1,G2,G3,G4,J1,J2,J3,J4]
 exact ⟨_,rfl⟩
theorem q71 {x':Option (List GEl)} (h:f164 b x'=some false):
  ∃ en,X pr qdx ⟨qrf ps ch bs n i x',qar k x fd i b lp T⟩=some (.exit 0,⟨en,qar i x' true i b lp T⟩):=by
 have g:=jd7 h
 simp only [go_sem,seval,qdx,rfB,qjf,pcB,pcL,pcR,qbi,qrf,g,G1,G2,G3,G4,J1,J2,J3,J4,Y1,Y2]
 exact ⟨_,rfl⟩
end
noncomputable def qqc (b:jm) (s:Unit) (x:Option (List GEl)):Option (Unit ⊕ Option (List GEl)):=qe (f164 b x) fun k=>cond k (some (.inl ())) (some (.inr x))
section
variable (ps:Option (List qi)) (ch:Option (List Int)) (bs:Option (List jm)) (n i:Int) (b:jm)
theorem q2m {m:Nat} (h:5≤m):y9 m (qb9 ps ch bs n i)=true:=by
 have h1:Abs.below m (sl 1 qo ch)=true:=by simp only [go_sem,seval]
 have h2:Abs.below m (sl 8 qm ps)=true:=by simp only [go_sem,seval]
 have h5:Abs.below m (sl 5 jg bs)=true:=by simp only [go_sem,seval]
 have h3:∀ b,b < 5→Nat.blt b m=true:=fun b hb=>Nat.ble_eq_true_of_le (by omega)
 show (Abs.below m (sl 8 qm ps) && (Abs.below m (sl 1 qo ch) && (Nat.blt 0 m && (Nat.blt 1 m && (Nat.blt 2 m && (Nat.blt 3 m && (Nat.blt 4 m && (Abs.below m (sl 5 jg bs) && (true && (true && ((true && (Abs.below m (sl 1 qo ch) && (Abs.below m (sl 8 qm ps) && (true && true)))) && true)))))))))))=true
 rw [h1,h2,h5,h3 0 (by omega),h3 1 (by omega),h3 2 (by omega),h3 3 (by omega),h3 4 (by omega)]; rfl
theorem qq3 {k:Int} {x:Option (List GEl)} {fd:Bool} {pd:Option ji} {m:Nat} (h:6≤m):jt m (qar k x fd i b (qcm ps ch bs n i pd) [])=true:=by
 have h1:Abs.below m (sl 3 vel x)=true:=by simp only [go_sem,seval]
 have h2:Abs.below m (sl 3 vel none)=true:=by simp only [go_sem,seval]
 have he:=q2m ps ch bs n i (m:=m) (by omega)
 show ((true && (Abs.below m (sl 3 vel none) && true)) && ((true && (Abs.below m (sl 3 vel x) && true)) && ((true && true) && ((true && true) && ((true && (true && (true && (true && (true && true))))) && (y9 m (qb9 ps ch bs n i) && true))))))=true
 rw [h1,h2,he]; rfl
def qdn:Base Unit (Option (List GEl)) where
 R _:=qar 0 none false i b (qcm ps ch bs n i none) []
 RD x:=qar i x true i b (qcm ps ch bs n i (some (.exit 0))) []
 n:=6
 b:=5
 ls _:=rfl
 ld _:=rfl
 bs k s h:=qq3 ps ch bs n i b h
 bd k d h:=qq3 ps ch bs n i b h
 hb:=by decide
 ch:=ch
 ps:=ps
 c:=false
theorem q98:(qdn ps ch bs n i b).fam.yields (qqc b):=by
 intro s x els r h
 have eH:∀ s,(qdn ps ch bs n i b).fam.HS s++els.map j6=qar 0 none false i b (qcm ps ch bs n i none) (qdd (qdn ps ch bs n i b)::els.map j6):=fun _=>rfl
 have eD:∀ d:Option (List GEl),(qdn ps ch bs n i b).fam.HD d++els.map j6=qar i d true i b (qcm ps ch bs n i (some (.exit 0))) (qdd (qdn ps ch bs n i b)::els.map j6):=fun _=>rfl
 have hbel:∀ r,jt (els.length + 7) ((qdn ps ch bs n i b).fam.hr r++els.map j6)=true:=fun r=>(qdn ps ch bs n i b).fam.below (show 7≤els.length + 7 by omega)
 generalize hT:qdd (qdn ps ch bs n i b)::els.map j6=T at eH eD
 have hlT:T.length=els.length + 1:=by rw [← hT,List.length_cons,List.length_map]
 show k9 (X pr) 5 [sl 3 vel x] _=_
 rw [eH]
 have g0:∀ k z fd pd,zu (qar k z fd i b (qcm ps ch bs n i pd) T) 5=some (.loop ⟨qb9 ps ch bs n i,[23],qfs,qdx,pd⟩):=fun _ _ _ _=>rfl
 have se:qcr (noOwn (qb9 ps ch bs n i)) [23] [sl 3 vel x]=some ((23,sl 3 vel x,false)::qb9 ps ch bs n i):=rfl
 have as_run:∀ H,X pr qfs ⟨(23,sl 3 vel x,false)::qb9 ps ch bs n i,H⟩=some (.normal,⟨qrf ps ch bs n i x,H⟩):=by
  intro H
  simp only [go_sem,seval,qfs,rfA,qjf,pcB,pcL,pcR,qbi,qb9] <;> rfl
 have st0:∀ k z fd pd pd',(qar k z fd i b (qcm ps ch bs n i pd) T).set 5 (.loop ⟨qb9 ps ch bs n i,[23],qfs,qdx,pd'⟩)=qar k z fd i b (qcm ps ch bs n i pd') T:=fun _ _ _ _ _=>rfl
 have hl:∀ k z fd pd,(qar k z fd i b (qcm ps ch bs n i pd) T).length=els.length + 7:=fun _ _ _ _=>by show T.length + 6=_; omega
 unfold qqc at h
 obtain ⟨v,h1,h⟩:=qa h
 unfold k9
 cases v with
 | true=>
  cases h
  obtain ⟨en,hb⟩:=q4d (ps:=ps) (ch:=ch) (bs:=bs) (n:=n) (i:=i) (k:=0) (x:=none) (fd:=false) (lp:=qcm ps ch bs n i (some .normal)) (T:=T) h1
  have ha:zq (els.length + 7) (.bool true) (qar 0 none false i b (qcm ps ch bs n i none) T)=qar 0 none false i b (qcm ps ch bs n i none) T:=qpy (hl _ _ _ _)
  simp only [g0,se,as_run,Option.isNone_none,cond_true,st0,hl,hb,ha]
  show _=some (AVal.bool true,(qdn ps ch bs n i b).fam.HS ()++els.map j6)
  rw [eH]
 | false=>
  cases h
  obtain ⟨en,hb⟩:=q71 (ps:=ps) (ch:=ch) (bs:=bs) (n:=n) (i:=i) (k:=0) (x:=none) (fd:=false) (lp:=qcm ps ch bs n i (some .normal)) (T:=T) h1
  have ha:zq (els.length + 7) (.bool true) (qar i x true i b (qcm ps ch bs n i (some (.exit 0))) T)=qar i x true i b (qcm ps ch bs n i (some (.exit 0))) T:=qpy (hl _ _ _ _)
  simp only [g0,se,as_run,Option.isNone_none,cond_true,st0,hl,hb,ha]
  show _=some (AVal.bool false,(qdn ps ch bs n i b).fam.HD x++els.map j6)
  rw [eD]
def H5 (k:Int) (x:Option (List GEl)) (fd:Bool) (i:Int) (b:jm):qk:=[.cells (c1s 0 none),.cells (c1s k x),.cells [(.bool fd,false)],.cells [(.int .i64 i,false)],.cells (bcs b)]
theorem q6v {r} (h:vis (qqc b) ch ps false (ch.getD []).length none ()=some r):X pr qjf ⟨qb9 ps ch bs n i,H5 0 none false i b⟩=some (match r with
  | .inl _=>(.normal,⟨qb9 ps ch bs n i,H5 0 none false i b⟩)
  | .inr x=>(.exit 0,⟨qb9 ps ch bs n i,H5 i x true i b⟩)):=by
 have h1:=q50 (qdn ps ch bs n i b) (q98 ps ch bs n i b) h
 rw [q7d,qop]
 unfold qbh
 have hn:(zg qfs && zg qdx)=true:=rfl
 have he:ql (qb9 ps ch bs n i) (.tmp 22)=some (.fn (.func 196) [] [.vptr (sl 1 qo ch),.vptr (sl 8 qm ps),.vptr (.bool false)]):=rfl
 have hb:∀ k x fd,jt 5 (H5 k x fd i b)=true:=by
  intro k x fd
  have h1:Abs.below 5 (sl 3 vel x)=true:=by simp only [go_sem,seval]
  have h2:Abs.below 5 (sl 3 vel none)=true:=by simp only [go_sem,seval]
  show ((true && (Abs.below 5 (sl 3 vel none) && true)) && ((true && (Abs.below 5 (sl 3 vel x) && true)) && ((true && true) && ((true && true) && ((true && (true && (true && (true && (true && true))))) && true)))))=true
  rw [h1,h2]; rfl
 simp only [hn,cond_true,he,List.nil_append,List.cons_append]
 have hl:∀ k x fd,(H5 k x fd i b).length=5:=fun _ _ _=>rfl
 have h1':jl pr (X pr) 196 [.fn (.yield (H5 0 none false i b).length) [] [],.vptr (sl 1 qo ch),.vptr (sl 8 qm ps),.vptr (.bool false)] (H5 0 none false i b++[.loop ⟨qb9 ps ch bs n i,[23],qfs,qdx,none⟩])=some (.tup [],false,(qdn ps ch bs n i b).fam.hr r):=h1
 rw [h1']
 cases r with
 | inl s'=>
  have hg:zu ((qdn ps ch bs n i b).fam.hr (.inl s')) 5=some (.loop ⟨qb9 ps ch bs n i,[23],qfs,qdx,none⟩):=rfl
  have ht:((qdn ps ch bs n i b).fam.hr (.inl s')).take 5=H5 0 none false i b:=rfl
  simp only [hl,hg,ht]
  rw [hb]
  rfl
 | inr x=>
  have hg:zu ((qdn ps ch bs n i b).fam.hr (.inr x)) 5=some (.loop ⟨qb9 ps ch bs n i,[23],qfs,qdx,some (.exit 0)⟩):=rfl
  have ht:((qdn ps ch bs n i b).fam.hr (.inr x)).take 5=H5 i x true i b:=rfl
  simp only [hl,hg,ht]
  rw [hb]
  rfl
end
def qwf:ACode:=pcL qbi
def qv6:ACode:=pcL (pcR qbi)
def qyi:ACode:=pcL (pcB (pcL (pcR (pcR qbi))))
def qx2:ACode:=pcL (pcR (pcB (pcL (pcR (pcR qbi)))))
def qwi:ACode:=pcR (pcR (pcR qbi))
theorem q4f:qbi=.seq qwf (.seq qv6 (.seq (.block 1 (.seq qyi (.seq qx2 (.block 2 qjf)))) qwi)):=rfl
noncomputable def qf7 (ps:Option (List qi)) (ch:Option (List Int)) (bs:Option (List jm)) (i:Int):Option (Int ⊕ (Int ⊕ (Int × jm × Option (List GEl)))):=
 cond (decide (i < ((bs.getD []).length:Int))) (qe (zw (bs.getD []) i) fun b=>qe (vis (qqc b) ch ps false (ch.getD []).length none ()) fun r=>match r with
  | .inl _=>some (.inl (qf .i64 (i + 1)))
  | .inr x=>some (.inr (.inr (i,b,x)))) (some (.inr (.inl i)))
section
variable (ps:Option (List qi)) (ch:Option (List Int)) (bs:Option (List jm))
def qg3 (i:Int):ASt:=⟨[(0,sl 8 qm ps,false),(1,sl 1 qo ch,false),(6,.ptr 0 0,false),(8,.ptr 1 0,false),(9,.ptr 2 0,false),(13,sl 5 jg bs,false),(14,.int .i64 ((bs.getD []).length:Int),false),(15,.int .i64 i,false)],[.cells (c1s 0 none),.cells (c1s 0 none),.cells [(.bool false,false)]]⟩
def qoq:Int ⊕ (Int × jm × Option (List GEl))→ji × ASt
 | .inl i=>(.exit 0,⟨[(0,sl 8 qm ps,false),(1,sl 1 qo ch,false),(6,.ptr 0 0,false),(8,.ptr 1 0,false),(9,.ptr 2 0,false),(13,sl 5 jg bs,false),(14,.int .i64 ((bs.getD []).length:Int),false),(15,.int .i64 i,false),(16,.bool false,false)],[.cells (c1s 0 none),.cells (c1s 0 none),.cells [(.bool false,false)]]⟩)
 | .inr d=>(.exit 0,⟨qb9 ps ch bs ((bs.getD []).length:Int) d.1,H5 d.1 d.2.2 true d.1 d.2.1⟩)
theorem jfj (i:Int) (r) (h:qf7 ps ch bs i=some r):zj pr qbi (qg3 ps ch bs) (qoq ps ch bs) i r:=by
 unfold qf7 at h
 have g159:=jdr (ps:=ps) (ch:=ch) (c:=false)
 rcases qb h with ⟨h1,k⟩ | ⟨h1,k⟩
 ·obtain ⟨b,h2,k⟩:=qa k
  obtain ⟨q,h3,k⟩:=qa k
  have hx:=q6v ps ch bs ((bs.getD []).length:Int) i b h3
  simp only [qb9,H5,c1s,bcs] at hx
  rw [q4f]
  cases q with
  | inl s=>
   cases k
   dsimp only at hx
   refine qq (st':=⟨[(0,sl 8 qm ps,false),(1,sl 1 qo ch,false),(6,.ptr 0 0,false),(8,.ptr 1 0,false),(9,.ptr 2 0,false),(13,sl 5 jg bs,false),(14,.int .i64 ((bs.getD []).length:Int),false),(15,.int .i64 (qf .i64 (i + 1)),false)],[.cells (c1s 0 none),.cells (c1s 0 none),.cells [(.bool false,false)]]++[.cells [(.int .i64 i,false)],.cells (bcs b)]⟩) ?_ ?_
   ·simp only [go_sem,seval,qwf,qv6,qyi,qx2,qwi,pcL,pcR,pcB,qbi,qg3,c1s,bcs,h1,q9 h2,g159,hx] <;> rfl
   ·exact zz rfl rfl (by first | simp only [go_sem,seval,qg3,c1s] | rfl) (by first | simp only [go_sem,seval,qg3,c1s] | rfl)
  | inr x=>
   cases k
   dsimp only at hx
   refine qj ?_
   simp only [go_sem,seval,qwf,qv6,qyi,qx2,qwi,pcL,pcR,pcB,qbi,qg3,c1s,bcs,h1,q9 h2,g159,hx,qoq,qb9,H5] <;> rfl
 ·cases k
  exact qj (by simp only [go_sem,seval,qbi,qg3,h1,qoq] <;> rfl)
theorem jd4 {i:Int} {d} (h:itO (qf7 ps ch bs) i=some d):X pr (.loop qbi) (qg3 ps ch bs i)=some (qoq ps ch bs d):=z7 (jfj ps ch bs) (fun d=>by rcases d with d | d <;> (intro hh; cases hh)) h
end
noncomputable def f117 (ps:Option (List qi)) (ch:Option (List Int)) (bs:Option (List jm)):Option (qin × Bool):=
 qe (itO (qf7 ps ch bs) 0) fun d=>match d with
  | .inl _=>some (⟨0,none⟩,false)
  | .inr d=>some (⟨d.1,d.2.2⟩,true)
theorem jq8 {ps:Option (List qi)} {ch:Option (List Int)} {bs:Option (List jm)} {r} (h:f117 ps ch bs=some r):qc pr (X pr) 117 [sl 8 qm ps,sl 1 qo ch,sl 5 jg bs]=some (.tup [.agg [.int .i64 r.1.band,sl 3 vel r.1.ladder],.bool r.2],false):=by
 unfold f117 at h
 obtain ⟨d,h1,h⟩:=qa h
 have hl:=jd4 ps ch bs h1
 have hnl:sl 3 vel (none:Option (List GEl))=.list true 0 []:=rfl
 cases d with
 | inl i=>
  cases h
  simp only [qg3,qoq,c1s,hnl] at hl
  refine qy rfl ?_ (fun _=>by first | rfl | simp only [go_sem,seval]) (by first | rfl | simp only [go_sem,seval])
  rw [qh (show pr.fns 117=some c117 from rfl) (by simp)]
  simp only [go_sem,seval,c117,hl]
  exact ⟨_,rfl⟩
 | inr d=>
  cases h
  simp only [qg3,qoq,c1s,qb9,H5,bcs,hnl] at hl
  refine qy rfl ?_ (fun _=>by first | rfl | simp only [go_sem,seval]) (by first | rfl | simp only [go_sem,seval])
  rw [qh (show pr.fns 117=some c117 from rfl) (by simp)]
  simp only [go_sem,seval,c117,hl]
  exact ⟨_,rfl⟩
noncomputable def f59 (a0:Option (List qi)) (a1:Option (List Int)) (a2:Option (List jm)):Option (qin × Int):=
 qe (f133 a0 a1) fun v1=>
 qe (f81 a2) fun v3=>
 qe (f105 (some [v1,v3])) fun v5=>
 cond (decide (v5=0))
  (qe (f117 a0 a1 a2) fun v8=>
  qe (f106 (!v8.2) 7) fun v10=>
  some (v8.1,v10))
  (some (⟨0,none⟩,v5))
theorem W59 {a0:Option (List qi)} {a1:Option (List Int)} {a2:Option (List jm)} {r} (h:f59 a0 a1 a2=some r):qc pr (X pr) 59 [sl 8 qm a0,sl 1 qo a1,sl 5 jg a2]=some (.tup [.agg [.int .i64 r.1.band,sl 3 vel r.1.ladder],.int .i64 r.2],false):=by
 unfold f59 at h
 obtain ⟨v1,h2,h⟩:=qa h
 obtain ⟨v3,h4,h⟩:=qa h
 obtain ⟨v5,h6,h⟩:=qa h
 have wh6:qc pr (X pr) 105 [.list false 1 [.int .i64 v1,.int .i64 v3]]=some (.int .i64 v5,false):=qln h6
 rcases qb h with ⟨h7,h⟩ | ⟨h7,h⟩
 ·obtain ⟨v8,h9,h⟩:=qa h
  obtain ⟨v10,h11,h⟩:=qa h
  have wh11:qc pr (X pr) 106 [.bool (!v8.2),.int .i64 7]=some (.int .i64 v10,false):=qhu h11
  have hr:(v8.1,v10)=r:=Option.some.inj h
  subst hr
  refine qy rfl ?_ (fun _=>by first | rfl | simp only [go_sem,seval]) (by first | rfl | simp only [go_sem,seval])
  rw [qh (show pr.fns 59=some c59 from rfl) (by simp)]
  simp only [go_sem,seval,c59,q6s h2,W81 h4,wh6,h7,jq8 h9,wh11]
  exact ⟨_,rfl⟩
 ·have hr:(⟨0,none⟩,v5)=r:=Option.some.inj h
  subst hr
  refine qy rfl ?_ (fun _=>by first | rfl | simp only [go_sem,seval]) (by first | rfl | simp only [go_sem,seval])
  rw [qh (show pr.fns 59=some c59 from rfl) (by simp)]
  simp only [go_sem,seval,c59,q6s h2,W81 h4,wh6,h7]
  exact ⟨_,rfl⟩
end Go.Z
