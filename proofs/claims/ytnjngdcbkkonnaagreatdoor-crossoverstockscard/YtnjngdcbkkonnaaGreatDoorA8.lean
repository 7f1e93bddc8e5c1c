/-
  Chapter 4: choices: functions that mirror the runs, and the runs (printed by walk.py).
-/
import Derived.Test.YtnjngdcbkkonnaaGreatDoorA5
set_option linter.unusedVariables false
set_option linter.unusedSimpArgs false
set_option maxRecDepth 100000
set_option maxHeartbeats 4000000
namespace Go.Z
open Go Go.Abs
noncomputable def f177 (a0:Int) (c0_0:Option (List qc)):Option Bool:=
 cond (decide (a0 < 0))
  (some true)
  (some (decide (((c0_0.getD []).length:Int)≤a0)))
theorem jkw {a0:Int} {c0_0:Option (List qc)} {r} (h:f177 a0 c0_0=some r):jm pr (X pr) 177 [.int .i64 a0,.ptr 0 0] [.cells [(sl 8 qg c0_0,false)]]=some (.bool r,false,[.cells [(sl 8 qg c0_0,false)]]):=by
 unfold f177 at h
 rcases qa h with ⟨h1,h⟩ | ⟨h1,h⟩
 ·have hr:true=r:=Option.some.inj h
  subst hr
  rw [qf (show pr.fns 177=some c177 from rfl) (by simp)]
  simp only [go_sem,seval,c177,h1] <;> rfl
 ·have hr:decide (((c0_0.getD []).length:Int)≤a0)=r:=Option.some.inj h
  subst hr
  rw [qf (show pr.fns 177=some c177 from rfl) (by simp)]
  simp only [go_sem,seval,c177,h1] <;> rfl
noncomputable def qf7 (a0:Option (List Int)) (c0_0:Option (List qc)) (s0:Int):Option (Int ⊕ (Int ⊕ Int)):=
 cond (decide (s0 < ((a0.getD []).length:Int)))
  (qh (zm (a0.getD []) s0) fun v14=>
  qh (f177 v14 c0_0) fun v16=>
  cond v16
   (some (.inr (.inl s0)))
   (some (.inl (qm .i64 (s0 + 1)))))
  (some (.inr (.inr s0)))
def qio (a0:Option (List Int)) (c0_0:Option (List qc)) (s0:Int):ASt:=⟨[(0,sl 1 qp a0,false),(1,.fn (.func 177) [] [.ptr 0 0],false),(7,.int .i64 ((a0.getD []).length:Int),false),(8,.int .i64 s0,false)],[.cells [(sl 8 qg c0_0,false)]]⟩
def qmb (a0:Option (List Int)) (c0_0:Option (List qc)):Int ⊕ Int→je × ASt
 | .inl d=>(.ret,⟨[(4,.int .i64 d,false)],[.cells [(sl 8 qg c0_0,false)]]⟩)
 | .inr d=>(.exit 0,⟨[(0,sl 1 qp a0,false),(1,.fn (.func 177) [] [.ptr 0 0],false),(7,.int .i64 ((a0.getD []).length:Int),false),(8,.int .i64 d,false),(9,.bool false,false)],[.cells [(sl 8 qg c0_0,false)]]⟩)
theorem q67 (a0:Option (List Int)) (c0_0:Option (List qc)) (s0:Int) (r) (h:qf7 a0 c0_0 s0=some r):j9 pr qek (qio a0 c0_0) (qmb a0 c0_0) s0 r:=by
 unfold qf7 at h
 rcases qa h with ⟨h13,h⟩ | ⟨h13,h⟩
 ·obtain ⟨v14,h15,h⟩:=qb h
  obtain ⟨v16,h17,h⟩:=qb h
  have wh17:jm pr (X pr) 177 [.int .i64 v14,.ptr 0 0] [.cells [(sl 8 qg c0_0,false)]]=some (.bool v16,false,[.cells [(sl 8 qg c0_0,false)]]):=jkw h17
  rcases qa h with ⟨h18,h⟩ | ⟨h18,h⟩
  ·cases h
   exact ql (by simp only [go_sem,seval,qek,qio,h13,jb h15,wh17,h18,qmb] <;> rfl)
  ·cases h
   exact qq (st':=⟨[(0,sl 1 qp a0,false),(1,.fn (.func 177) [] [.ptr 0 0],false),(7,.int .i64 ((a0.getD []).length:Int),false),(8,.int .i64 (qm .i64 (s0 + 1)),false)],[.cells [(sl 8 qg c0_0,false)]]⟩) (by simp only [go_sem,seval,qek,qio,h13,jb h15,wh17,h18] <;> rfl) (qy (Nat.le_refl _))
 ·cases h
  exact ql (by simp only [go_sem,seval,qek,qio,h13,qmb] <;> rfl)
theorem q0k (a0:Option (List Int)) (c0_0:Option (List qc)) {s0:Int} {d} (h:itO (qf7 a0 c0_0) s0=some d):X pr (.loop qek) (qio a0 c0_0 s0)=some (qmb a0 c0_0 d):=zi (q67 a0 c0_0) (fun d=>by rcases d with d|d <;> (intro hh; cases hh)) h
noncomputable def f208 (a0:Option (List Int)) (c0_0:Option (List qc)):Option Int:=
 qh (itO (qf7 a0 c0_0) 0) fun d19=>match d19 with
  | .inl d21=>
   some d21
  | .inr d22=>
   some (-1)
theorem jjs {a0:Option (List Int)} {c0_0:Option (List qc)} {r} (h:f208 a0 c0_0=some r):jm pr (X pr) 208 [sl 1 qp a0,.fn (.func 177) [] [.ptr 0 0]] [.cells [(sl 8 qg c0_0,false)]]=some (.int .i64 r,false,[.cells [(sl 8 qg c0_0,false)]]):=by
 unfold f208 at h
 obtain ⟨d19,h20,h⟩:=qb h
 rcases d19 with d21 | d22
 ·have wh20:X pr (.loop qek) ⟨[(0,sl 1 qp a0,false),(1,.fn (.func 177) [] [.ptr 0 0],false),(7,.int .i64 ((a0.getD []).length:Int),false),(8,.int .i64 0,false)],[.cells [(sl 8 qg c0_0,false)]]⟩=some (.ret,⟨[(4,.int .i64 d21,false)],[.cells [(sl 8 qg c0_0,false)]]⟩):=q0k a0 c0_0 h20
  have hr:d21=r:=Option.some.inj h
  subst hr
  rw [qf (show pr.fns 208=some c208 from rfl) (by simp)]
  simp only [go_sem,seval,c208,wh20] <;> rfl
 ·have wh20:X pr (.loop qek) ⟨[(0,sl 1 qp a0,false),(1,.fn (.func 177) [] [.ptr 0 0],false),(7,.int .i64 ((a0.getD []).length:Int),false),(8,.int .i64 0,false)],[.cells [(sl 8 qg c0_0,false)]]⟩=some (.exit 0,⟨[(0,sl 1 qp a0,false),(1,.fn (.func 177) [] [.ptr 0 0],false),(7,.int .i64 ((a0.getD []).length:Int),false),(8,.int .i64 d22,false),(9,.bool false,false)],[.cells [(sl 8 qg c0_0,false)]]⟩):=q0k a0 c0_0 h20
  have hr:(-1)=r:=Option.some.inj h
  subst hr
  rw [qf (show pr.fns 208=some c208 from rfl) (by simp)]
  simp only [go_sem,seval,c208,wh20] <;> rfl
noncomputable def f176 (a0:Option (List Int)) (c0_0:Option (List qc)):Option Bool:=
 qh (f208 a0 c0_0) fun v1=>
 some (decide (0≤v1))
theorem jkd {a0:Option (List Int)} {c0_0:Option (List qc)} {r} (h:f176 a0 c0_0=some r):jm pr (X pr) 176 [sl 1 qp a0,.fn (.func 177) [] [.ptr 0 0]] [.cells [(sl 8 qg c0_0,false)]]=some (.bool r,false,[.cells [(sl 8 qg c0_0,false)]]):=by
 unfold f176 at h
 obtain ⟨v1,h2,h⟩:=qb h
 have wh2:jm pr (X pr) 208 [sl 1 qp a0,.fn (.func 177) [] [.ptr 0 0]] [.cells [(sl 8 qg c0_0,false)]]=some (.int .i64 v1,false,[.cells [(sl 8 qg c0_0,false)]]):=jjs h2
 have hr:decide (0≤v1)=r:=Option.some.inj h
 subst hr
 rw [qf (show pr.fns 176=some c176 from rfl) (by simp)]
 simp only [go_sem,seval,c176,wh2] <;> rfl
noncomputable def f133 (a0:Option (List qc)) (a1:Option (List Int)):Option Int:=
 qh (f176 a1 a0) fun v1=>
 qh (f23 a0) fun v3=>
 qh (f106 (decide (3 < ((a1.getD []).length:Int))) 5) fun v5=>
 qh (f106 v1 10) fun v7=>
 qh (f105 (some [v3,v5,v7])) fun v9=>
 some v9
theorem q21 {a0:Option (List qc)} {a1:Option (List Int)} {r} (h:f133 a0 a1=some r):qd pr (X pr) 133 [sl 8 qg a0,sl 1 qp a1]=some (.int .i64 r,false):=by
 unfold f133 at h
 obtain ⟨v1,h2,h⟩:=qb h
 have wh2:jm pr (X pr) 176 [sl 1 qp a1,.fn (.func 177) [] [.ptr 0 0]] [.cells [(sl 8 qg a0,false)]]=some (.bool v1,false,[.cells [(sl 8 qg a0,false)]]):=jkd h2
 obtain ⟨v3,h4,h⟩:=qb h
 obtain ⟨v5,h6,h⟩:=qb h
 have wh6:qd pr (X pr) 106 [.bool (decide (3 < ((a1.getD []).length:Int))),.int .i64 5]=some (.int .i64 v5,false):=ql1 h6
 obtain ⟨v7,h8,h⟩:=qb h
 obtain ⟨v9,h10,h⟩:=qb h
 have wh10:qd pr (X pr) 105 [.list false 1 [.int .i64 v3,.int .i64 v5,.int .i64 v7]]=some (.int .i64 v9,false):=qx3 h10
 have hr:v9=r:=Option.some.inj h
 subst hr
 refine qu rfl ?_ (fun _=>by first | rfl | simp only [go_sem,seval]) (by first | rfl | simp only [go_sem,seval])
 rw [qf (show pr.fns 133=some c133 from rfl) (by simp)]
 simp only [go_sem,seval,c133,wh2,W23 h4,wh6,ql1 h8,wh10]
 exact ⟨_,rfl⟩
noncomputable def f30 (a0:Option (List Int)):Option (Option (List Int)):=
 qh (apO (some []) (a0.getD [])) fun v1=>
 some v1
theorem W30 {a0:Option (List Int)} {r} (h:f30 a0=some r):qd pr (X pr) 30 [sl 1 qp a0]=some (sl 1 qp r,true):=by
 unfold f30 at h
 obtain ⟨v1,h2,h⟩:=qb h
 have hr:v1=r:=Option.some.inj h
 subst hr
 have this:∃ hh,jm pr (X pr) 30 [sl 1 qp a0] []=some (sl 1 qp v1,true,hh):=by
  rw [qf (show pr.fns 30=some c30 from rfl) (by simp)]
  simp only [go_sem,seval,c30,qz5 h2]
  exact ⟨_,rfl⟩
 obtain ⟨hh,this⟩:=this
 exact zz rfl this (by first | rfl | simp only [go_sem,seval]) (by first | rfl | simp only [go_sem,seval]) (by first | rfl | simp only [go_sem,seval])
noncomputable def qjf (a0:Option (List qc)) (a1:Option (List Int)) (s0:Int):Option (Int ⊕ (Unit ⊕ Int)):=
 cond (decide (s0 < ((a1.getD []).length:Int)))
  (qh (zm (a1.getD []) s0) fun v13=>
  cond (decide (v13 < 0))
   (some (.inr (.inl ())))
   (cond (decide (((a0.getD []).length:Int)≤v13))
    (some (.inr (.inl ())))
    (some (.inl (qm .i64 (s0 + 1))))))
  (some (.inr (.inr s0)))
def qi5 (a0:Option (List qc)) (a1:Option (List Int)) (s0:Int):ASt:=⟨[(0,sl 8 qg a0,false),(1,sl 1 qp a1,false),(5,.int .i64 s0,false)],[]⟩
def qlg (a0:Option (List qc)) (a1:Option (List Int)):Unit ⊕ Int→je × ASt
 | .inl d=>(.ret,⟨[(4,.int .i64 10,false)],[]⟩)
 | .inr d=>(.exit 0,⟨[(0,sl 8 qg a0,false),(1,sl 1 qp a1,false),(5,.int .i64 d,false),(12,.bool false,false)],[]⟩)
theorem jck (a0:Option (List qc)) (a1:Option (List Int)) (s0:Int) (r) (h:qjf a0 a1 s0=some r):j9 pr qfb (qi5 a0 a1) (qlg a0 a1) s0 r:=by
 unfold qjf at h
 rcases qa h with ⟨h12,h⟩ | ⟨h12,h⟩
 ·obtain ⟨v13,h14,h⟩:=qb h
  rcases qa h with ⟨h15,h⟩ | ⟨h15,h⟩
  ·cases h
   exact ql (by simp only [go_sem,seval,qfb,qi5,h12,jb h14,h15,qlg] <;> rfl)
  ·rcases qa h with ⟨h16,h⟩ | ⟨h16,h⟩
   ·cases h
    exact ql (by simp only [go_sem,seval,qfb,qi5,h12,jb h14,h15,h16,qlg] <;> rfl)
   ·cases h
    exact qq (st':=⟨[(0,sl 8 qg a0,false),(1,sl 1 qp a1,false),(5,.int .i64 (qm .i64 (s0 + 1)),false)],[]⟩) (by simp only [go_sem,seval,qfb,qi5,h12,jb h14,h15,h16] <;> rfl) (qy (Nat.le_refl _))
 ·cases h
  exact ql (by simp only [go_sem,seval,qfb,qi5,h12,qlg] <;> rfl)
theorem q3q (a0:Option (List qc)) (a1:Option (List Int)) {s0:Int} {d} (h:itO (qjf a0 a1) s0=some d):X pr (.loop qfb) (qi5 a0 a1 s0)=some (qlg a0 a1 d):=zi (jck a0 a1) (fun d=>by rcases d with d|d <;> (intro hh; cases hh)) h
noncomputable def f33 (a0:Option (List qc)) (a1:Option (List Int)):Option Int:=
 cond (decide (3 < ((a1.getD []).length:Int)))
  (some 5)
  (qh (itO (qjf a0 a1) 0) fun d17=>match d17 with
   | .inl d19=>
    some 10
   | .inr d20=>
    some 0)
theorem W33 {a0:Option (List qc)} {a1:Option (List Int)} {r} (h:f33 a0 a1=some r):qd pr (X pr) 33 [sl 8 qg a0,sl 1 qp a1]=some (.int .i64 r,false):=by
 unfold f33 at h
 rcases qa h with ⟨h1,h⟩ | ⟨h1,h⟩
 ·have hr:5=r:=Option.some.inj h
  subst hr
  refine qu rfl ?_ (fun _=>by first | rfl | simp only [go_sem,seval]) (by first | rfl | simp only [go_sem,seval])
  rw [qf (show pr.fns 33=some c33 from rfl) (by simp)]
  simp only [go_sem,seval,c33,h1]
  exact ⟨_,rfl⟩
 ·obtain ⟨d17,h18,h⟩:=qb h
  rcases d17 with d19 | d20
  ·have wh18:X pr (.loop qfb) ⟨[(0,sl 8 qg a0,false),(1,sl 1 qp a1,false),(5,.int .i64 0,false)],[]⟩=some (.ret,⟨[(4,.int .i64 10,false)],[]⟩):=q3q a0 a1 h18
   have hr:10=r:=Option.some.inj h
   subst hr
   refine qu rfl ?_ (fun _=>by first | rfl | simp only [go_sem,seval]) (by first | rfl | simp only [go_sem,seval])
   rw [qf (show pr.fns 33=some c33 from rfl) (by simp)]
   simp only [go_sem,seval,c33,h1,wh18]
   exact ⟨_,rfl⟩
  ·have wh18:X pr (.loop qfb) ⟨[(0,sl 8 qg a0,false),(1,sl 1 qp a1,false),(5,.int .i64 0,false)],[]⟩=some (.exit 0,⟨[(0,sl 8 qg a0,false),(1,sl 1 qp a1,false),(5,.int .i64 d20,false),(12,.bool false,false)],[]⟩):=q3q a0 a1 h18
   have hr:0=r:=Option.some.inj h
   subst hr
   refine qu rfl ?_ (fun _=>by first | rfl | simp only [go_sem,seval]) (by first | rfl | simp only [go_sem,seval])
   rw [qf (show pr.fns 33=some c33 from rfl) (by simp)]
   simp only [go_sem,seval,c33,h1,wh18]
   exact ⟨_,rfl⟩
noncomputable def qpc (a0:Option (List qc)) (a1:Option (List Int)) (s0:Int × Int):Option ((Int × Int) ⊕ ((Int × Int))):=
 cond (decide (s0.2 < ((a1.getD []).length:Int)))
  (qh (zm (a1.getD []) s0.2) fun v12=>
  qh (zm (a0.getD []) v12) fun v14=>
  some (.inl (qm .i64 (s0.1 + v14.cost),qm .i64 (s0.2 + 1))))
  (some (.inr (s0.1,s0.2)))
def qmc (a0:Option (List qc)) (a1:Option (List Int)) (s0:Int × Int):ASt:=⟨[(0,sl 8 qg a0,false),(5,.int .i64 s0.1,false),(8,sl 1 qp a1,false),(9,.int .i64 ((a1.getD []).length:Int),false),(10,.int .i64 s0.2,false)],[]⟩
def qpo (a0:Option (List qc)) (a1:Option (List Int)) (d:(Int × Int)):je × ASt:=(.exit 0,⟨[(0,sl 8 qg a0,false),(5,.int .i64 d.1,false),(8,sl 1 qp a1,false),(9,.int .i64 ((a1.getD []).length:Int),false),(10,.int .i64 d.2,false),(11,.bool false,false)],[]⟩)
theorem q80 (a0:Option (List qc)) (a1:Option (List Int)) (s0:Int × Int) (r) (h:qpc a0 a1 s0=some r):j9 pr qh8 (qmc a0 a1) (qpo a0 a1) s0 r:=by
 unfold qpc at h
 rcases qa h with ⟨h11,h⟩ | ⟨h11,h⟩
 ·obtain ⟨v12,h13,h⟩:=qb h
  obtain ⟨v14,h15,h⟩:=qb h
  cases h
  exact qq (st':=⟨[(0,sl 8 qg a0,false),(5,.int .i64 (qm .i64 (s0.1 + v14.cost)),false),(8,sl 1 qp a1,false),(9,.int .i64 ((a1.getD []).length:Int),false),(10,.int .i64 (qm .i64 (s0.2 + 1)),false)],[]⟩) (by simp only [go_sem,seval,qh8,qmc,h11,jb h13,jb h15] <;> rfl) (qy (Nat.le_refl _))
 ·cases h
  exact ql (by simp only [go_sem,seval,qh8,qmc,h11,qpo] <;> rfl)
theorem q62 (a0:Option (List qc)) (a1:Option (List Int)) {s0:Int × Int} {d} (h:itO (qpc a0 a1) s0=some d):X pr (.loop qh8) (qmc a0 a1 s0)=some (qpo a0 a1 d):=zi (q80 a0 a1) (fun d hh=>by cases hh) h
noncomputable def f116 (a0:Option (List qc)) (a1:Option (List Int)):Option Int:=
 qh (itO (qpc a0 a1) (0,0)) fun d16=>
 some d16.1
theorem jio {a0:Option (List qc)} {a1:Option (List Int)} {r} (h:f116 a0 a1=some r):qd pr (X pr) 116 [sl 8 qg a0,sl 1 qp a1]=some (.int .i64 r,false):=by
 unfold f116 at h
 obtain ⟨d16,h17,h⟩:=qb h
 have wh17:X pr (.loop qh8) ⟨[(0,sl 8 qg a0,false),(5,.int .i64 0,false),(8,sl 1 qp a1,false),(9,.int .i64 ((a1.getD []).length:Int),false),(10,.int .i64 0,false)],[]⟩=some (.exit 0,⟨[(0,sl 8 qg a0,false),(5,.int .i64 d16.1,false),(8,sl 1 qp a1,false),(9,.int .i64 ((a1.getD []).length:Int),false),(10,.int .i64 d16.2,false),(11,.bool false,false)],[]⟩):=q62 a0 a1 h17
 have hr:d16.1=r:=Option.some.inj h
 subst hr
 refine qu rfl ?_ (fun _=>by first | rfl | simp only [go_sem,seval]) (by first | rfl | simp only [go_sem,seval])
 rw [qf (show pr.fns 116=some c116 from rfl) (by simp)]
 simp only [go_sem,seval,c116,wh17]
 exact ⟨_,rfl⟩
noncomputable def f67 (a0:Option (List qc)) (a1:Option (List Int)):Option (Int × Int):=
 qh (f133 a0 a1) fun v1=>
 cond (decide (v1=0))
  (qh (f116 a0 a1) fun v4=>
  some (v4,0))
  (some (0,v1))
theorem W67 {a0:Option (List qc)} {a1:Option (List Int)} {r} (h:f67 a0 a1=some r):qd pr (X pr) 67 [sl 8 qg a0,sl 1 qp a1]=some (.tup [.int .i64 r.1,.int .i64 r.2],false):=by
 unfold f67 at h
 obtain ⟨v1,h2,h⟩:=qb h
 rcases qa h with ⟨h3,h⟩ | ⟨h3,h⟩
 ·obtain ⟨v4,h5,h⟩:=qb h
  have hr:(v4,0)=r:=Option.some.inj h
  subst hr
  refine qu rfl ?_ (fun _=>by first | rfl | simp only [go_sem,seval]) (by first | rfl | simp only [go_sem,seval])
  rw [qf (show pr.fns 67=some c67 from rfl) (by simp)]
  simp only [go_sem,seval,c67,q21 h2,h3,jio h5]
  exact ⟨_,rfl⟩
 ·have hr:(0,v1)=r:=Option.some.inj h
  subst hr
  refine qu rfl ?_ (fun _=>by first | rfl | simp only [go_sem,seval]) (by first | rfl | simp only [go_sem,seval])
  rw [qf (show pr.fns 67=some c67 from rfl) (by simp)]
  simp only [go_sem,seval,c67,q21 h2,h3]
  exact ⟨_,rfl⟩
noncomputable def qhd (a0:Option (List qc)) (a1:Option (List Int)) (s0:Int × Int):Option ((Int × Int) ⊕ ((Int × Int))):=
 cond (decide (s0.2 < ((a1.getD []).length:Int)))
  (qh (zm (a1.getD []) s0.2) fun v12=>
  qh (zm (a0.getD []) v12) fun v14=>
  some (.inl (qm .i64 (s0.1 + v14.cost),qm .i64 (s0.2 + 1))))
  (some (.inr (s0.1,s0.2)))
def qo3 (a0:Option (List qc)) (a1:Option (List Int)) (s0:Int × Int):ASt:=⟨[(0,sl 8 qg a0,false),(1,sl 1 qp a1,false),(5,.int .i64 s0.1,false),(6,.int .i64 s0.2,false)],[]⟩
def qtz (a0:Option (List qc)) (a1:Option (List Int)) (d:(Int × Int)):je × ASt:=(.exit 0,⟨[(0,sl 8 qg a0,false),(1,sl 1 qp a1,false),(5,.int .i64 d.1,false),(6,.int .i64 d.2,false),(10,.bool false,false)],[]⟩)
theorem jdl (a0:Option (List qc)) (a1:Option (List Int)) (s0:Int × Int) (r) (h:qhd a0 a1 s0=some r):j9 pr ql9 (qo3 a0 a1) (qtz a0 a1) s0 r:=by
 unfold qhd at h
 rcases qa h with ⟨h11,h⟩ | ⟨h11,h⟩
 ·obtain ⟨v12,h13,h⟩:=qb h
  obtain ⟨v14,h15,h⟩:=qb h
  cases h
  exact qq (st':=⟨[(0,sl 8 qg a0,false),(1,sl 1 qp a1,false),(5,.int .i64 (qm .i64 (s0.1 + v14.cost)),false),(6,.int .i64 (qm .i64 (s0.2 + 1)),false)],[]⟩) (by simp only [go_sem,seval,ql9,qo3,h11,jb h13,jb h15] <;> rfl) (qy (Nat.le_refl _))
 ·cases h
  exact ql (by simp only [go_sem,seval,ql9,qo3,h11,qtz] <;> rfl)
theorem jf5 (a0:Option (List qc)) (a1:Option (List Int)) {s0:Int × Int} {d} (h:itO (qhd a0 a1) s0=some d):X pr (.loop ql9) (qo3 a0 a1 s0)=some (qtz a0 a1 d):=zi (jdl a0 a1) (fun d hh=>by cases hh) h
noncomputable def f71 (a0:Option (List qc)) (a1:Option (List Int)):Option Int:=
 qh (itO (qhd a0 a1) (0,0)) fun d16=>
 some d16.1
theorem W71 {a0:Option (List qc)} {a1:Option (List Int)} {r} (h:f71 a0 a1=some r):qd pr (X pr) 71 [sl 8 qg a0,sl 1 qp a1]=some (.int .i64 r,false):=by
 unfold f71 at h
 obtain ⟨d16,h17,h⟩:=qb h
 have wh17:X pr (.loop ql9) ⟨[(0,sl 8 qg a0,false),(1,sl 1 qp a1,false),(5,.int .i64 0,false),(6,.int .i64 0,false)],[]⟩=some (.exit 0,⟨[(0,sl 8 qg a0,false),(1,sl 1 qp a1,false),(5,.int .i64 d16.1,false),(6,.int .i64 d16.2,false),(10,.bool false,false)],[]⟩):=jf5 a0 a1 h17
 have hr:d16.1=r:=Option.some.inj h
 subst hr
 refine qu rfl ?_ (fun _=>by first | rfl | simp only [go_sem,seval]) (by first | rfl | simp only [go_sem,seval])
 rw [qf (show pr.fns 71=some c71 from rfl) (by simp)]
 simp only [go_sem,seval,c71,wh17]
 exact ⟨_,rfl⟩
end Go.Z
