/-
  Chapter 4: dominated parts, choices: sorted: functions that mirror the runs, and the runs (printed by walk.py).
-/
import Derived.Test.YtnjngdcbkkonnaaGreatDoorA8
set_option linter.unusedVariables false
set_option linter.unusedSimpArgs false
set_option maxRecDepth 100000
set_option maxHeartbeats 4000000
namespace Go.Z
open Go Go.Abs
noncomputable def qj7 (a0:Option (List Int)) (a1:Option (List Int)) (s0:Int):Option (Int ⊕ (Unit ⊕ Int)):=
 cond (decide (s0 < ((a0.getD []).length:Int)))
  (qh (zm (a0.getD []) s0) fun v15=>
  qh (zm (a1.getD []) s0) fun v17=>
  cond (decide (v15=v17))
   (some (.inl (qm .i64 (s0 + 1))))
   (some (.inr (.inl ()))))
  (some (.inr (.inr s0)))
def qlr (a0:Option (List Int)) (a1:Option (List Int)) (s0:Int):ASt:=⟨[(0,sl 1 qp a0,false),(1,sl 1 qp a1,false),(5,.int .i64 s0,false)],[]⟩
def qpm (a0:Option (List Int)) (a1:Option (List Int)):Unit ⊕ Int→je × ASt
 | .inl d=>(.ret,⟨[(4,.bool false,false)],[]⟩)
 | .inr d=>(.exit 0,⟨[(0,sl 1 qp a0,false),(1,sl 1 qp a1,false),(5,.int .i64 d,false),(14,.bool false,false)],[]⟩)
theorem jar (a0:Option (List Int)) (a1:Option (List Int)) (s0:Int) (r) (h:qj7 a0 a1 s0=some r):j9 pr qhl (qlr a0 a1) (qpm a0 a1) s0 r:=by
 unfold qj7 at h
 rcases qa h with ⟨h14,h⟩ | ⟨h14,h⟩
 ·obtain ⟨v15,h16,h⟩:=qb h
  obtain ⟨v17,h18,h⟩:=qb h
  rcases qa h with ⟨h19,h⟩ | ⟨h19,h⟩
  ·cases h
   exact qq (st':=⟨[(0,sl 1 qp a0,false),(1,sl 1 qp a1,false),(5,.int .i64 (qm .i64 (s0 + 1)),false)],[]⟩) (by simp only [go_sem,seval,qhl,qlr,h14,jb h16,jb h18,h19] <;> rfl) (qy (Nat.le_refl _))
  ·cases h
   exact ql (by simp only [go_sem,seval,qhl,qlr,h14,jb h16,jb h18,h19,qpm] <;> rfl)
 ·cases h
  exact ql (by simp only [go_sem,seval,qhl,qlr,h14,qpm] <;> rfl)
theorem q3d (a0:Option (List Int)) (a1:Option (List Int)) {s0:Int} {d} (h:itO (qj7 a0 a1) s0=some d):X pr (.loop qhl) (qlr a0 a1 s0)=some (qpm a0 a1 d):=zi (jar a0 a1) (fun d=>by rcases d with d|d <;> (intro hh; cases hh)) h
noncomputable def f42 (a0:Option (List Int)) (a1:Option (List Int)):Option Bool:=
 cond (decide (((a0.getD []).length:Int)=((a1.getD []).length:Int)))
  (qh (itO (qj7 a0 a1) 0) fun d20=>match d20 with
   | .inl d22=>
    some false
   | .inr d23=>
    some true)
  (some false)
theorem W42 {a0:Option (List Int)} {a1:Option (List Int)} {r} (h:f42 a0 a1=some r):qd pr (X pr) 42 [sl 1 qp a0,sl 1 qp a1]=some (.bool r,false):=by
 unfold f42 at h
 rcases qa h with ⟨h1,h⟩ | ⟨h1,h⟩
 ·obtain ⟨d20,h21,h⟩:=qb h
  rcases d20 with d22 | d23
  ·have wh21:X pr (.loop qhl) ⟨[(0,sl 1 qp a0,false),(1,sl 1 qp a1,false),(5,.int .i64 0,false)],[]⟩=some (.ret,⟨[(4,.bool false,false)],[]⟩):=q3d a0 a1 h21
   have hr:false=r:=Option.some.inj h
   subst hr
   refine qu rfl ?_ (fun _=>by first | rfl | simp only [go_sem,seval]) (by first | rfl | simp only [go_sem,seval])
   rw [qf (show pr.fns 42=some c42 from rfl) (by simp)]
   simp only [go_sem,seval,c42,h1,wh21]
   exact ⟨_,rfl⟩
  ·have wh21:X pr (.loop qhl) ⟨[(0,sl 1 qp a0,false),(1,sl 1 qp a1,false),(5,.int .i64 0,false)],[]⟩=some (.exit 0,⟨[(0,sl 1 qp a0,false),(1,sl 1 qp a1,false),(5,.int .i64 d23,false),(14,.bool false,false)],[]⟩):=q3d a0 a1 h21
   have hr:true=r:=Option.some.inj h
   subst hr
   refine qu rfl ?_ (fun _=>by first | rfl | simp only [go_sem,seval]) (by first | rfl | simp only [go_sem,seval])
   rw [qf (show pr.fns 42=some c42 from rfl) (by simp)]
   simp only [go_sem,seval,c42,h1,wh21]
   exact ⟨_,rfl⟩
 ·have hr:false=r:=Option.some.inj h
  subst hr
  refine qu rfl ?_ (fun _=>by first | rfl | simp only [go_sem,seval]) (by first | rfl | simp only [go_sem,seval])
  rw [qf (show pr.fns 42=some c42 from rfl) (by simp)]
  simp only [go_sem,seval,c42,h1]
  exact ⟨_,rfl⟩
noncomputable def qjv (a0:Option (List qc)) (a1:Option (List qc)) (s0:Int):Option (Int ⊕ (Unit ⊕ Int)):=
 cond (decide (s0 < ((a0.getD []).length:Int)))
  (qh (zm (a0.getD []) s0) fun v15=>
  qh (zm (a1.getD []) s0) fun v17=>
  cond (decide (v15.name=v17.name) && decide (v15.kd=v17.kd) && decide (v15.pa=v17.pa) && decide (v15.pb=v17.pb) && decide (v15.sa=v17.sa) && decide (v15.sb=v17.sb) && decide (v15.cost=v17.cost) && decide (v15.stock=v17.stock))
   (some (.inl (qm .i64 (s0 + 1))))
   (some (.inr (.inl ()))))
  (some (.inr (.inr s0)))
def qk1 (a0:Option (List qc)) (a1:Option (List qc)) (s0:Int):ASt:=⟨[(0,sl 8 qg a0,false),(1,sl 8 qg a1,false),(5,.int .i64 s0,false)],[]⟩
def qph (a0:Option (List qc)) (a1:Option (List qc)):Unit ⊕ Int→je × ASt
 | .inl d=>(.ret,⟨[(4,.bool false,false)],[]⟩)
 | .inr d=>(.exit 0,⟨[(0,sl 8 qg a0,false),(1,sl 8 qg a1,false),(5,.int .i64 d,false),(14,.bool false,false)],[]⟩)
theorem jei (a0:Option (List qc)) (a1:Option (List qc)) (s0:Int) (r) (h:qjv a0 a1 s0=some r):j9 pr qhb (qk1 a0 a1) (qph a0 a1) s0 r:=by
 unfold qjv at h
 rcases qa h with ⟨h14,h⟩ | ⟨h14,h⟩
 ·obtain ⟨v15,h16,h⟩:=qb h
  obtain ⟨v17,h18,h⟩:=qb h
  rcases qa h with ⟨h19,h⟩ | ⟨h19,h⟩
  ·cases h
   exact qq (st':=⟨[(0,sl 8 qg a0,false),(1,sl 8 qg a1,false),(5,.int .i64 (qm .i64 (s0 + 1)),false)],[]⟩) (by simp only [go_sem,seval,qhb,qk1,h14,jb h16,jb h18,h19] <;> rfl) (qy (Nat.le_refl _))
  ·cases h
   exact ql (by simp only [go_sem,seval,qhb,qk1,h14,jb h16,jb h18,h19,qph] <;> rfl)
 ·cases h
  exact ql (by simp only [go_sem,seval,qhb,qk1,h14,qph] <;> rfl)
theorem q3n (a0:Option (List qc)) (a1:Option (List qc)) {s0:Int} {d} (h:itO (qjv a0 a1) s0=some d):X pr (.loop qhb) (qk1 a0 a1 s0)=some (qph a0 a1 d):=zi (jei a0 a1) (fun d=>by rcases d with d|d <;> (intro hh; cases hh)) h
noncomputable def f74 (a0:Option (List qc)) (a1:Option (List qc)):Option Bool:=
 cond (decide (((a0.getD []).length:Int)=((a1.getD []).length:Int)))
  (qh (itO (qjv a0 a1) 0) fun d20=>match d20 with
   | .inl d22=>
    some false
   | .inr d23=>
    some true)
  (some false)
theorem W74 {a0:Option (List qc)} {a1:Option (List qc)} {r} (h:f74 a0 a1=some r):qd pr (X pr) 74 [sl 8 qg a0,sl 8 qg a1]=some (.bool r,false):=by
 unfold f74 at h
 rcases qa h with ⟨h1,h⟩ | ⟨h1,h⟩
 ·obtain ⟨d20,h21,h⟩:=qb h
  rcases d20 with d22 | d23
  ·have wh21:X pr (.loop qhb) ⟨[(0,sl 8 qg a0,false),(1,sl 8 qg a1,false),(5,.int .i64 0,false)],[]⟩=some (.ret,⟨[(4,.bool false,false)],[]⟩):=q3n a0 a1 h21
   have hr:false=r:=Option.some.inj h
   subst hr
   refine qu rfl ?_ (fun _=>by first | rfl | simp only [go_sem,seval]) (by first | rfl | simp only [go_sem,seval])
   rw [qf (show pr.fns 74=some c74 from rfl) (by simp)]
   simp only [go_sem,seval,c74,h1,wh21]
   exact ⟨_,rfl⟩
  ·have wh21:X pr (.loop qhb) ⟨[(0,sl 8 qg a0,false),(1,sl 8 qg a1,false),(5,.int .i64 0,false)],[]⟩=some (.exit 0,⟨[(0,sl 8 qg a0,false),(1,sl 8 qg a1,false),(5,.int .i64 d23,false),(14,.bool false,false)],[]⟩):=q3n a0 a1 h21
   have hr:true=r:=Option.some.inj h
   subst hr
   refine qu rfl ?_ (fun _=>by first | rfl | simp only [go_sem,seval]) (by first | rfl | simp only [go_sem,seval])
   rw [qf (show pr.fns 74=some c74 from rfl) (by simp)]
   simp only [go_sem,seval,c74,h1,wh21]
   exact ⟨_,rfl⟩
 ·have hr:false=r:=Option.some.inj h
  subst hr
  refine qu rfl ?_ (fun _=>by first | rfl | simp only [go_sem,seval]) (by first | rfl | simp only [go_sem,seval])
  rw [qf (show pr.fns 74=some c74 from rfl) (by simp)]
  simp only [go_sem,seval,c74,h1]
  exact ⟨_,rfl⟩
noncomputable def qjh (a0:Option (List qc)) (s0:(Option (List qc)) × Int × Bool):Option (((Option (List qc)) × Int × Bool) ⊕ (((Option (List qc)) × Bool × Int))):=
 cond (decide (s0.2.1 < ((a0.getD []).length:Int)))
  (qh (zm (a0.getD []) s0.2.1) fun v14=>
  cond s0.2.2
   (qh (apO s0.1 [v14]) fun v17=>
   some (.inl (v17,qm .i64 (s0.2.1 + 1),true)))
   (cond s0.1.isNone
    (qh (apO s0.1 [v14]) fun v20=>
    some (.inl (v20,qm .i64 (s0.2.1 + 1),true)))
    (none)))
  (some (.inr (s0.1,s0.2.2,s0.2.1)))
def qcz (a0:Option (List qc)) (s0:(Option (List qc)) × Int × Bool):ASt:=⟨[(3,sl 8 qg s0.1,s0.2.2),(6,sl 8 qg a0,false),(7,.int .i64 ((a0.getD []).length:Int),false),(8,.int .i64 s0.2.1,false)],[]⟩
def qtc (a0:Option (List qc)) (d:((Option (List qc)) × Bool × Int)):je × ASt:=(.exit 0,⟨[(3,sl 8 qg d.1,d.2.1),(6,sl 8 qg a0,false),(7,.int .i64 ((a0.getD []).length:Int),false),(8,.int .i64 d.2.2,false),(9,.bool false,false)],[]⟩)
theorem jat (a0:Option (List qc)) (s0:(Option (List qc)) × Int × Bool) (r) (h:qjh a0 s0=some r):j9 pr qj9 (qcz a0) (qtc a0) s0 r:=by
 unfold qjh at h
 rcases qa h with ⟨h13,h⟩ | ⟨h13,h⟩
 ·obtain ⟨v14,h15,h⟩:=qb h
  rcases qa h with ⟨h16,h⟩ | ⟨h16,h⟩
  ·obtain ⟨v17,h18,h⟩:=qb h
   cases h
   exact qq (st':=⟨[(3,sl 8 qg v17,true),(6,sl 8 qg a0,false),(7,.int .i64 ((a0.getD []).length:Int),false),(8,.int .i64 (qm .i64 (s0.2.1 + 1)),false)],[]++[.cells [(.str v14.name,false),(.str v14.kd,false),(.int .i64 v14.pa,false),(.int .i64 v14.pb,false),(.int .i64 v14.sa,false),(.int .i64 v14.sb,false),(.int .i64 v14.cost,false),(.int .i64 v14.stock,false)]]⟩) (by simp only [go_sem,seval,qj9,qcz,h13,jb h15,h16,qm9 h18] <;> rfl) (yd rfl rfl (by first | simp only [go_sem,seval,qcz] | rfl) (by first | simp only [go_sem,seval,qcz] | rfl))
  ·rcases qa h with ⟨h19,h⟩ | ⟨h19,h⟩
   ·obtain ⟨v20,h21,h⟩:=qb h
    cases h
    exact qq (st':=⟨[(3,sl 8 qg v20,true),(6,sl 8 qg a0,false),(7,.int .i64 ((a0.getD []).length:Int),false),(8,.int .i64 (qm .i64 (s0.2.1 + 1)),false)],[]++[.cells [(.str v14.name,false),(.str v14.kd,false),(.int .i64 v14.pa,false),(.int .i64 v14.pb,false),(.int .i64 v14.sa,false),(.int .i64 v14.sb,false),(.int .i64 v14.cost,false),(.int .i64 v14.stock,false)]]⟩) (by simp only [go_sem,seval,qj9,qcz,h13,jb h15,h16,h19,qm4 h21 h19] <;> rfl) (yd rfl rfl (by first | simp only [go_sem,seval,qcz] | rfl) (by first | simp only [go_sem,seval,qcz] | rfl))
   ·cases h
 ·cases h
  exact ql (by simp only [go_sem,seval,qj9,qcz,h13,qtc] <;> rfl)
theorem jfa (a0:Option (List qc)) {s0:(Option (List qc)) × Int × Bool} {d} (h:itO (qjh a0) s0=some d):X pr (.loop qj9) (qcz a0 s0)=some (qtc a0 d):=zi (jat a0) (fun d hh=>by cases hh) h
noncomputable def f75 (a0:Option (List qc)):Option ((Option (List qc)) × Bool):=
 qh (itO (qjh a0) (none,0,false)) fun d22=>
 some (d22.1,d22.2.1)
theorem W75 {a0:Option (List qc)} {r} (h:f75 a0=some r):qd pr (X pr) 75 [sl 8 qg a0]=some (sl 8 qg r.1,r.2):=by
 unfold f75 at h
 obtain ⟨d22,h23,h⟩:=qb h
 have wh23:X pr (.loop qj9) ⟨[(3,.list true 0 [],false),(6,sl 8 qg a0,false),(7,.int .i64 ((a0.getD []).length:Int),false),(8,.int .i64 0,false)],[]⟩=some (.exit 0,⟨[(3,sl 8 qg d22.1,d22.2.1),(6,sl 8 qg a0,false),(7,.int .i64 ((a0.getD []).length:Int),false),(8,.int .i64 d22.2.2,false),(9,.bool false,false)],[]⟩):=jfa a0 h23
 have hr:(d22.1,d22.2.1)=r:=Option.some.inj h
 subst hr
 have this:∃ hh,jm pr (X pr) 75 [sl 8 qg a0] []=some (sl 8 qg d22.1,d22.2.1,hh):=by
  rw [qf (show pr.fns 75=some c75 from rfl) (by simp)]
  simp only [go_sem,seval,c75,wh23]
  exact ⟨_,rfl⟩
 obtain ⟨hh,this⟩:=this
 exact zz rfl this (by first | rfl | simp only [go_sem,seval]) (by first | rfl | simp only [go_sem,seval]) (by first | rfl | simp only [go_sem,seval])
noncomputable def qem (a0:Option (List GEl)) (a1:GEl) (s0:Int):Option (Int ⊕ (Int ⊕ Int)):=
 cond (decide (s0 < ((a0.getD []).length:Int)))
  (qh (zm (a0.getD []) s0) fun v10=>
  cond (decide (a1.kind=v10.kind) && decide (a1.a=v10.a) && decide (a1.b=v10.b))
   (some (.inr (.inl s0)))
   (some (.inl (qm .i64 (s0 + 1)))))
  (some (.inr (.inr s0)))
def qi7 (a0:Option (List GEl)) (a1:GEl) (s0:Int):ASt:=⟨[(0,sl 3 vel a0,false),(3,.vptr (.agg [.str a1.kind,.int .i64 a1.a,.int .i64 a1.b]),false),(7,.int .i64 ((a0.getD []).length:Int),false),(8,.int .i64 s0,false)],[]⟩
def qmr (a0:Option (List GEl)) (a1:GEl):Int ⊕ Int→je × ASt
 | .inl d=>(.ret,⟨[(4,.int .i64 d,false)],[]⟩)
 | .inr d=>(.exit 0,⟨[(0,sl 3 vel a0,false),(3,.vptr (.agg [.str a1.kind,.int .i64 a1.a,.int .i64 a1.b]),false),(7,.int .i64 ((a0.getD []).length:Int),false),(8,.int .i64 d,false),(9,.bool false,false)],[]⟩)
theorem q7v (a0:Option (List GEl)) (a1:GEl) (s0:Int) (r) (h:qem a0 a1 s0=some r):j9 pr qd8 (qi7 a0 a1) (qmr a0 a1) s0 r:=by
 unfold qem at h
 rcases qa h with ⟨h9,h⟩ | ⟨h9,h⟩
 ·obtain ⟨v10,h11,h⟩:=qb h
  rcases qa h with ⟨h12,h⟩ | ⟨h12,h⟩
  ·cases h
   exact ql (by simp only [go_sem,seval,qd8,qi7,h9,jb h11,h12,qmr] <;> rfl)
  ·cases h
   exact qq (st':=⟨[(0,sl 3 vel a0,false),(3,.vptr (.agg [.str a1.kind,.int .i64 a1.a,.int .i64 a1.b]),false),(7,.int .i64 ((a0.getD []).length:Int),false),(8,.int .i64 (qm .i64 (s0 + 1)),false)],[]⟩) (by simp only [go_sem,seval,qd8,qi7,h9,jb h11,h12] <;> rfl) (qy (Nat.le_refl _))
 ·cases h
  exact ql (by simp only [go_sem,seval,qd8,qi7,h9,qmr] <;> rfl)
theorem q0b (a0:Option (List GEl)) (a1:GEl) {s0:Int} {d} (h:itO (qem a0 a1) s0=some d):X pr (.loop qd8) (qi7 a0 a1 s0)=some (qmr a0 a1 d):=zi (q7v a0 a1) (fun d=>by rcases d with d|d <;> (intro hh; cases hh)) h
noncomputable def f209 (a0:Option (List GEl)) (a1:GEl):Option Int:=
 qh (itO (qem a0 a1) 0) fun d13=>match d13 with
  | .inl d15=>
   some d15
  | .inr d16=>
   some (-1)
theorem jij {a0:Option (List GEl)} {a1:GEl} {r} (h:f209 a0 a1=some r):qd pr (X pr) 209 [sl 3 vel a0,.agg [.str a1.kind,.int .i64 a1.a,.int .i64 a1.b]]=some (.int .i64 r,false):=by
 unfold f209 at h
 obtain ⟨d13,h14,h⟩:=qb h
 rcases d13 with d15 | d16
 ·have wh14:X pr (.loop qd8) ⟨[(0,sl 3 vel a0,false),(3,.vptr (.agg [.str a1.kind,.int .i64 a1.a,.int .i64 a1.b]),false),(7,.int .i64 ((a0.getD []).length:Int),false),(8,.int .i64 0,false)],[]⟩=some (.ret,⟨[(4,.int .i64 d15,false)],[]⟩):=q0b a0 a1 h14
  have hr:d15=r:=Option.some.inj h
  subst hr
  refine qu rfl ?_ (fun _=>by first | rfl | simp only [go_sem,seval]) (by first | rfl | simp only [go_sem,seval])
  rw [qf (show pr.fns 209=some c209 from rfl) (by simp)]
  simp only [go_sem,seval,c209,wh14]
  exact ⟨_,rfl⟩
 ·have wh14:X pr (.loop qd8) ⟨[(0,sl 3 vel a0,false),(3,.vptr (.agg [.str a1.kind,.int .i64 a1.a,.int .i64 a1.b]),false),(7,.int .i64 ((a0.getD []).length:Int),false),(8,.int .i64 0,false)],[]⟩=some (.exit 0,⟨[(0,sl 3 vel a0,false),(3,.vptr (.agg [.str a1.kind,.int .i64 a1.a,.int .i64 a1.b]),false),(7,.int .i64 ((a0.getD []).length:Int),false),(8,.int .i64 d16,false),(9,.bool false,false)],[]⟩):=q0b a0 a1 h14
  have hr:(-1)=r:=Option.some.inj h
  subst hr
  refine qu rfl ?_ (fun _=>by first | rfl | simp only [go_sem,seval]) (by first | rfl | simp only [go_sem,seval])
  rw [qf (show pr.fns 209=some c209 from rfl) (by simp)]
  simp only [go_sem,seval,c209,wh14]
  exact ⟨_,rfl⟩
noncomputable def f179 (a0:Option (List GEl)) (a1:GEl):Option Bool:=
 qh (f209 a0 a1) fun v1=>
 some (decide (0≤v1))
theorem jk1 {a0:Option (List GEl)} {a1:GEl} {r} (h:f179 a0 a1=some r):qd pr (X pr) 179 [sl 3 vel a0,.agg [.str a1.kind,.int .i64 a1.a,.int .i64 a1.b]]=some (.bool r,false):=by
 unfold f179 at h
 obtain ⟨v1,h2,h⟩:=qb h
 have wh2:qd pr (X pr) 209 [sl 3 vel a0,.agg [.str a1.kind,.int .i64 a1.a,.int .i64 a1.b]]=some (.int .i64 v1,false):=jij h2
 have hr:decide (0≤v1)=r:=Option.some.inj h
 subst hr
 refine qu rfl ?_ (fun _=>by first | rfl | simp only [go_sem,seval]) (by first | rfl | simp only [go_sem,seval])
 rw [qf (show pr.fns 179=some c179 from rfl) (by simp)]
 simp only [go_sem,seval,c179,wh2]
 exact ⟨_,rfl⟩
noncomputable def f178 (a0:GEl) (c0_0:Option (List GEl)) (o0_0:Bool):Option Bool:=
 qh (f179 c0_0 a0) fun v1=>
 some (!v1)
theorem jkm {a0:GEl} {c0_0:Option (List GEl)} {o0_0:Bool} {r} (h:f178 a0 c0_0 o0_0=some r):jm pr (X pr) 178 [.agg [.str a0.kind,.int .i64 a0.a,.int .i64 a0.b],.ptr 0 0] [.cells [(sl 3 vel c0_0,o0_0)]]=some (.bool r,false,[.cells [(sl 3 vel c0_0,o0_0)]]):=by
 unfold f178 at h
 obtain ⟨v1,h2,h⟩:=qb h
 have wh2:qd pr (X pr) 179 [sl 3 vel c0_0,.agg [.str a0.kind,.int .i64 a0.a,.int .i64 a0.b]]=some (.bool v1,false):=jk1 h2
 have hr:(!v1)=r:=Option.some.inj h
 subst hr
 rw [qf (show pr.fns 178=some c178 from rfl) (by simp)]
 simp only [go_sem,seval,c178,wh2] <;> rfl
noncomputable def qdu (a0:Option (List GEl)) (c0_0:Option (List GEl)) (o0_0:Bool) (s0:Int):Option (Int ⊕ (Int ⊕ Int)):=
 cond (decide (s0 < ((a0.getD []).length:Int)))
  (qh (zm (a0.getD []) s0) fun v14=>
  qh (f178 v14 c0_0 o0_0) fun v16=>
  cond v16
   (some (.inr (.inl s0)))
   (some (.inl (qm .i64 (s0 + 1)))))
  (some (.inr (.inr s0)))
def qgk (a0:Option (List GEl)) (c0_0:Option (List GEl)) (o0_0:Bool) (s0:Int):ASt:=⟨[(0,sl 3 vel a0,false),(1,.fn (.func 178) [] [.ptr 0 0],false),(7,.int .i64 ((a0.getD []).length:Int),false),(8,.int .i64 s0,false)],[.cells [(sl 3 vel c0_0,o0_0)]]⟩
def qjo (a0:Option (List GEl)) (c0_0:Option (List GEl)) (o0_0:Bool):Int ⊕ Int→je × ASt
 | .inl d=>(.ret,⟨[(4,.int .i64 d,false)],[.cells [(sl 3 vel c0_0,o0_0)]]⟩)
 | .inr d=>(.exit 0,⟨[(0,sl 3 vel a0,false),(1,.fn (.func 178) [] [.ptr 0 0],false),(7,.int .i64 ((a0.getD []).length:Int),false),(8,.int .i64 d,false),(9,.bool false,false)],[.cells [(sl 3 vel c0_0,o0_0)]]⟩)
theorem q4z (a0:Option (List GEl)) (c0_0:Option (List GEl)) (o0_0:Bool) (s0:Int) (r) (h:qdu a0 c0_0 o0_0 s0=some r):j9 pr qeg (qgk a0 c0_0 o0_0) (qjo a0 c0_0 o0_0) s0 r:=by
 unfold qdu at h
 rcases qa h with ⟨h13,h⟩ | ⟨h13,h⟩
 ·obtain ⟨v14,h15,h⟩:=qb h
  obtain ⟨v16,h17,h⟩:=qb h
  have wh17:jm pr (X pr) 178 [.agg [.str v14.kind,.int .i64 v14.a,.int .i64 v14.b],.ptr 0 0] [.cells [(sl 3 vel c0_0,o0_0)]]=some (.bool v16,false,[.cells [(sl 3 vel c0_0,o0_0)]]):=jkm h17
  rcases qa h with ⟨h18,h⟩ | ⟨h18,h⟩
  ·cases h
   exact ql (by simp only [go_sem,seval,qeg,qgk,h13,jb h15,wh17,h18,qjo] <;> rfl)
  ·cases h
   exact qq (st':=⟨[(0,sl 3 vel a0,false),(1,.fn (.func 178) [] [.ptr 0 0],false),(7,.int .i64 ((a0.getD []).length:Int),false),(8,.int .i64 (qm .i64 (s0 + 1)),false)],[.cells [(sl 3 vel c0_0,o0_0)]]⟩) (by simp only [go_sem,seval,qeg,qgk,h13,jb h15,wh17,h18] <;> rfl) (qy (Nat.le_refl _))
 ·cases h
  exact ql (by simp only [go_sem,seval,qeg,qgk,h13,qjo] <;> rfl)
theorem qwf (a0:Option (List GEl)) (c0_0:Option (List GEl)) (o0_0:Bool) {s0:Int} {d} (h:itO (qdu a0 c0_0 o0_0) s0=some d):X pr (.loop qeg) (qgk a0 c0_0 o0_0 s0)=some (qjo a0 c0_0 o0_0 d):=zi (q4z a0 c0_0 o0_0) (fun d=>by rcases d with d|d <;> (intro hh; cases hh)) h
noncomputable def qrz (a0:Option (List GEl)) (c0_0:Option (List GEl)) (o0_0:Bool):Option Int:=
 qh (itO (qdu a0 c0_0 o0_0) 0) fun d19=>match d19 with
  | .inl d21=>
   some d21
  | .inr d22=>
   some (-1)
theorem jct {a0:Option (List GEl)} {c0_0:Option (List GEl)} {o0_0:Bool} {r} (h:qrz a0 c0_0 o0_0=some r):jm pr (X pr) 210 [sl 3 vel a0,.fn (.func 178) [] [.ptr 0 0]] [.cells [(sl 3 vel c0_0,o0_0)]]=some (.int .i64 r,false,[.cells [(sl 3 vel c0_0,o0_0)]]):=by
 unfold qrz at h
 obtain ⟨d19,h20,h⟩:=qb h
 rcases d19 with d21 | d22
 ·have wh20:X pr (.loop qeg) ⟨[(0,sl 3 vel a0,false),(1,.fn (.func 178) [] [.ptr 0 0],false),(7,.int .i64 ((a0.getD []).length:Int),false),(8,.int .i64 0,false)],[.cells [(sl 3 vel c0_0,o0_0)]]⟩=some (.ret,⟨[(4,.int .i64 d21,false)],[.cells [(sl 3 vel c0_0,o0_0)]]⟩):=qwf a0 c0_0 o0_0 h20
  have hr:d21=r:=Option.some.inj h
  subst hr
  rw [qf (show pr.fns 210=some c210 from rfl) (by simp)]
  simp only [go_sem,seval,c210,wh20] <;> rfl
 ·have wh20:X pr (.loop qeg) ⟨[(0,sl 3 vel a0,false),(1,.fn (.func 178) [] [.ptr 0 0],false),(7,.int .i64 ((a0.getD []).length:Int),false),(8,.int .i64 0,false)],[.cells [(sl 3 vel c0_0,o0_0)]]⟩=some (.exit 0,⟨[(0,sl 3 vel a0,false),(1,.fn (.func 178) [] [.ptr 0 0],false),(7,.int .i64 ((a0.getD []).length:Int),false),(8,.int .i64 d22,false),(9,.bool false,false)],[.cells [(sl 3 vel c0_0,o0_0)]]⟩):=qwf a0 c0_0 o0_0 h20
  have hr:(-1)=r:=Option.some.inj h
  subst hr
  rw [qf (show pr.fns 210=some c210 from rfl) (by simp)]
  simp only [go_sem,seval,c210,wh20] <;> rfl
noncomputable def ql6 (a0:Option (List GEl)) (c0_0:Option (List GEl)) (o0_0:Bool):Option Bool:=
 qh (qrz a0 c0_0 o0_0) fun v1=>
 some (decide (0≤v1))
theorem q3f {a0:Option (List GEl)} {c0_0:Option (List GEl)} {o0_0:Bool} {r} (h:ql6 a0 c0_0 o0_0=some r):jm pr (X pr) 180 [sl 3 vel a0,.fn (.func 178) [] [.ptr 0 0]] [.cells [(sl 3 vel c0_0,o0_0)]]=some (.bool r,false,[.cells [(sl 3 vel c0_0,o0_0)]]):=by
 unfold ql6 at h
 obtain ⟨v1,h2,h⟩:=qb h
 have wh2:jm pr (X pr) 210 [sl 3 vel a0,.fn (.func 178) [] [.ptr 0 0]] [.cells [(sl 3 vel c0_0,o0_0)]]=some (.int .i64 v1,false,[.cells [(sl 3 vel c0_0,o0_0)]]):=jct h2
 have hr:decide (0≤v1)=r:=Option.some.inj h
 subst hr
 rw [qf (show pr.fns 180=some c180 from rfl) (by simp)]
 simp only [go_sem,seval,c180,wh2] <;> rfl
noncomputable def f139 (a0:qc) (a1:qc):Option Bool:=
 qh (f99 a1 false) fun v1=>
 cond v1.2
  (qh (f99 a0 false) fun v4=>
  qh (ql6 v4.1 v1.1 true) fun v6=>
  cond v6
   (some false)
   (cond (decide (a0.cost≤a1.cost))
    (some (decide (a1.stock≤a0.stock)))
    (some false)))
  (qh (f99 a0 false) fun v10=>
  qh (ql6 v10.1 v1.1 false) fun v12=>
  cond v12
   (some false)
   (cond (decide (a0.cost≤a1.cost))
    (some (decide (a1.stock≤a0.stock)))
    (some false)))
theorem q7z {a0:qc} {a1:qc} {r} (h:f139 a0 a1=some r):qd pr (X pr) 139 [.agg [.str a0.name,.str a0.kd,.int .i64 a0.pa,.int .i64 a0.pb,.int .i64 a0.sa,.int .i64 a0.sb,.int .i64 a0.cost,.int .i64 a0.stock],.agg [.str a1.name,.str a1.kd,.int .i64 a1.pa,.int .i64 a1.pb,.int .i64 a1.sa,.int .i64 a1.sb,.int .i64 a1.cost,.int .i64 a1.stock]]=some (.bool r,false):=by
 unfold f139 at h
 obtain ⟨v1,h2,h⟩:=qb h
 have wh2:qd pr (X pr) 99 [.agg [.str a1.name,.str a1.kd,.int .i64 a1.pa,.int .i64 a1.pb,.int .i64 a1.sa,.int .i64 a1.sb,.int .i64 a1.cost,.int .i64 a1.stock],.bool false]=some (sl 3 vel v1.1,v1.2):=W99 h2
 rcases qa h with ⟨h3,h⟩ | ⟨h3,h⟩
 ·obtain ⟨v4,h5,h⟩:=qb h
  have wh5:qd pr (X pr) 99 [.agg [.str a0.name,.str a0.kd,.int .i64 a0.pa,.int .i64 a0.pb,.int .i64 a0.sa,.int .i64 a0.sb,.int .i64 a0.cost,.int .i64 a0.stock],.bool false]=some (sl 3 vel v4.1,v4.2):=W99 h5
  obtain ⟨v6,h7,h⟩:=qb h
  have wh7:jm pr (X pr) 180 [sl 3 vel v4.1,.fn (.func 178) [] [.ptr 0 0]] [.cells [(sl 3 vel v1.1,true)]]=some (.bool v6,false,[.cells [(sl 3 vel v1.1,true)]]):=q3f h7
  rcases qa h with ⟨h8,h⟩ | ⟨h8,h⟩
  ·have hr:false=r:=Option.some.inj h
   subst hr
   refine qu rfl ?_ (fun _=>by first | rfl | simp only [go_sem,seval]) (by first | rfl | simp only [go_sem,seval])
   rw [qf (show pr.fns 139=some c139 from rfl) (by simp)]
   simp only [go_sem,seval,c139,wh2,h3,wh5,wh7,h8]
   exact ⟨_,rfl⟩
  ·rcases qa h with ⟨h9,h⟩ | ⟨h9,h⟩
   ·have hr:decide (a1.stock≤a0.stock)=r:=Option.some.inj h
    subst hr
    refine qu rfl ?_ (fun _=>by first | rfl | simp only [go_sem,seval]) (by first | rfl | simp only [go_sem,seval])
    rw [qf (show pr.fns 139=some c139 from rfl) (by simp)]
    simp only [go_sem,seval,c139,wh2,h3,wh5,wh7,h8,h9]
    exact ⟨_,rfl⟩
   ·have hr:false=r:=Option.some.inj h
    subst hr
    refine qu rfl ?_ (fun _=>by first | rfl | simp only [go_sem,seval]) (by first | rfl | simp only [go_sem,seval])
    rw [qf (show pr.fns 139=some c139 from rfl) (by simp)]
    simp only [go_sem,seval,c139,wh2,h3,wh5,wh7,h8,h9]
    exact ⟨_,rfl⟩
 ·obtain ⟨v10,h11,h⟩:=qb h
  have wh11:qd pr (X pr) 99 [.agg [.str a0.name,.str a0.kd,.int .i64 a0.pa,.int .i64 a0.pb,.int .i64 a0.sa,.int .i64 a0.sb,.int .i64 a0.cost,.int .i64 a0.stock],.bool false]=some (sl 3 vel v10.1,v10.2):=W99 h11
  obtain ⟨v12,h13,h⟩:=qb h
  have wh13:jm pr (X pr) 180 [sl 3 vel v10.1,.fn (.func 178) [] [.ptr 0 0]] [.cells [(sl 3 vel v1.1,false)]]=some (.bool v12,false,[.cells [(sl 3 vel v1.1,false)]]):=q3f h13
  rcases qa h with ⟨h14,h⟩ | ⟨h14,h⟩
  ·have hr:false=r:=Option.some.inj h
   subst hr
   refine qu rfl ?_ (fun _=>by first | rfl | simp only [go_sem,seval]) (by first | rfl | simp only [go_sem,seval])
   rw [qf (show pr.fns 139=some c139 from rfl) (by simp)]
   simp only [go_sem,seval,c139,wh2,h3,wh11,wh13,h14]
   exact ⟨_,rfl⟩
  ·rcases qa h with ⟨h15,h⟩ | ⟨h15,h⟩
   ·have hr:decide (a1.stock≤a0.stock)=r:=Option.some.inj h
    subst hr
    refine qu rfl ?_ (fun _=>by first | rfl | simp only [go_sem,seval]) (by first | rfl | simp only [go_sem,seval])
    rw [qf (show pr.fns 139=some c139 from rfl) (by simp)]
    simp only [go_sem,seval,c139,wh2,h3,wh11,wh13,h14,h15]
    exact ⟨_,rfl⟩
   ·have hr:false=r:=Option.some.inj h
    subst hr
    refine qu rfl ?_ (fun _=>by first | rfl | simp only [go_sem,seval]) (by first | rfl | simp only [go_sem,seval])
    rw [qf (show pr.fns 139=some c139 from rfl) (by simp)]
    simp only [go_sem,seval,c139,wh2,h3,wh11,wh13,h14,h15]
    exact ⟨_,rfl⟩
noncomputable def qjs (a0:Option (List qc)) (s0:(Option (List Int)) × Int × Bool) (v101:qc) (s1:Bool × Int):Option ((Bool × Int) ⊕ ((Bool × Int))):=
 cond (decide (s1.2 < ((a0.getD []).length:Int)))
  (qh (zm (a0.getD []) s1.2) fun v125=>
  cond s1.1
   (some (.inl (true,qm .i64 (s1.2 + 1))))
   (cond (decide (s1.2=s0.2.1))
    (some (.inl (false,qm .i64 (s1.2 + 1))))
    (qh (f139 v125 v101) fun v129=>
    cond v129
     (cond (decide (s1.2 < s0.2.1))
      (some (.inl (true,qm .i64 (s1.2 + 1))))
      (qh (f139 v101 v125) fun v133=>
      some (.inl (!v133,qm .i64 (s1.2 + 1)))))
     (some (.inl (false,qm .i64 (s1.2 + 1)))))))
  (some (.inr (s1.1,s1.2)))
def ku (a0:Option (List qc)) (s0:(Option (List Int)) × Int × Bool) (v101:qc) (s1:Bool × Int):ASt:=⟨[(0,sl 8 qg a0,false),(5,sl 1 qp s0.1,s0.2.2),(6,.int .i64 s0.2.1,false),(7,.ptr 0 0,false),(8,.bool s1.1,false),(16,sl 8 qg a0,false),(17,.int .i64 ((a0.getD []).length:Int),false),(18,.int .i64 s0.2.1,false),(23,sl 8 qg a0,false),(24,.int .i64 ((a0.getD []).length:Int),false),(25,.int .i64 s1.2,false)],[.cells [(.str v101.name,false),(.str v101.kd,false),(.int .i64 v101.pa,false),(.int .i64 v101.pb,false),(.int .i64 v101.sa,false),(.int .i64 v101.sb,false),(.int .i64 v101.cost,false),(.int .i64 v101.stock,false)]]⟩
def quj (a0:Option (List qc)) (s0:(Option (List Int)) × Int × Bool) (v101:qc) (d:(Bool × Int)):je × ASt:=(.exit 2,⟨[(0,sl 8 qg a0,false),(5,sl 1 qp s0.1,s0.2.2),(6,.int .i64 s0.2.1,false),(7,.ptr 0 0,false),(8,.bool d.1,false),(16,sl 8 qg a0,false),(17,.int .i64 ((a0.getD []).length:Int),false),(18,.int .i64 s0.2.1,false),(23,sl 8 qg a0,false),(24,.int .i64 ((a0.getD []).length:Int),false),(25,.int .i64 d.2,false),(26,.bool false,false)],[.cells [(.str v101.name,false),(.str v101.kd,false),(.int .i64 v101.pa,false),(.int .i64 v101.pb,false),(.int .i64 v101.sa,false),(.int .i64 v101.sb,false),(.int .i64 v101.cost,false),(.int .i64 v101.stock,false)]]⟩)
theorem jf6 (a0:Option (List qc)) (s0:(Option (List Int)) × Int × Bool) (v101:qc) (s1:Bool × Int) (r) (h:qjs a0 s0 v101 s1=some r):j9 pr qd6 (ku a0 s0 v101) (quj a0 s0 v101) s1 r:=by
 unfold qjs at h
 rcases qa h with ⟨h124,h⟩ | ⟨h124,h⟩
 ·obtain ⟨v125,h126,h⟩:=qb h
  rcases qa h with ⟨h127,h⟩ | ⟨h127,h⟩
  ·cases h
   exact qq (st':=⟨[(0,sl 8 qg a0,false),(5,sl 1 qp s0.1,s0.2.2),(6,.int .i64 s0.2.1,false),(7,.ptr 0 0,false),(8,.bool true,false),(16,sl 8 qg a0,false),(17,.int .i64 ((a0.getD []).length:Int),false),(18,.int .i64 s0.2.1,false),(23,sl 8 qg a0,false),(24,.int .i64 ((a0.getD []).length:Int),false),(25,.int .i64 (qm .i64 (s1.2 + 1)),false)],[.cells [(.str v101.name,false),(.str v101.kd,false),(.int .i64 v101.pa,false),(.int .i64 v101.pb,false),(.int .i64 v101.sa,false),(.int .i64 v101.sb,false),(.int .i64 v101.cost,false),(.int .i64 v101.stock,false)]]++[.cells [(.str v125.name,false),(.str v125.kd,false),(.int .i64 v125.pa,false),(.int .i64 v125.pb,false),(.int .i64 v125.sa,false),(.int .i64 v125.sb,false),(.int .i64 v125.cost,false),(.int .i64 v125.stock,false)]]⟩) (by simp only [go_sem,seval,qd6,ku,h124,jb h126,h127] <;> rfl) (yd rfl rfl (by first | simp only [go_sem,seval,ku] | rfl) (by first | simp only [go_sem,seval,ku] | rfl))
  ·rcases qa h with ⟨h128,h⟩ | ⟨h128,h⟩
   ·cases h
    exact qq (st':=⟨[(0,sl 8 qg a0,false),(5,sl 1 qp s0.1,s0.2.2),(6,.int .i64 s0.2.1,false),(7,.ptr 0 0,false),(8,.bool false,false),(16,sl 8 qg a0,false),(17,.int .i64 ((a0.getD []).length:Int),false),(18,.int .i64 s0.2.1,false),(23,sl 8 qg a0,false),(24,.int .i64 ((a0.getD []).length:Int),false),(25,.int .i64 (qm .i64 (s1.2 + 1)),false)],[.cells [(.str v101.name,false),(.str v101.kd,false),(.int .i64 v101.pa,false),(.int .i64 v101.pb,false),(.int .i64 v101.sa,false),(.int .i64 v101.sb,false),(.int .i64 v101.cost,false),(.int .i64 v101.stock,false)]]++[.cells [(.str v125.name,false),(.str v125.kd,false),(.int .i64 v125.pa,false),(.int .i64 v125.pb,false),(.int .i64 v125.sa,false),(.int .i64 v125.sb,false),(.int .i64 v125.cost,false),(.int .i64 v125.stock,false)]]⟩) (by simp only [go_sem,seval,qd6,ku,h124,jb h126,h127,h128] <;> rfl) (yd rfl rfl (by first | simp only [go_sem,seval,ku] | rfl) (by first | simp only [go_sem,seval,ku] | rfl))
   ·obtain ⟨v129,h130,h⟩:=qb h
    have wh130:qd pr (X pr) 139 [.agg [.str v125.name,.str v125.kd,.int .i64 v125.pa,.int .i64 v125.pb,.int .i64 v125.sa,.int .i64 v125.sb,.int .i64 v125.cost,.int .i64 v125.stock],.agg [.str v101.name,.str v101.kd,.int .i64 v101.pa,.int .i64 v101.pb,.int .i64 v101.sa,.int .i64 v101.sb,.int .i64 v101.cost,.int .i64 v101.stock]]=some (.bool v129,false):=q7z h130
    rcases qa h with ⟨h131,h⟩ | ⟨h131,h⟩
    ·rcases qa h with ⟨h132,h⟩ | ⟨h132,h⟩
     ·cases h
      exact qq (st':=⟨[(0,sl 8 qg a0,false),(5,sl 1 qp s0.1,s0.2.2),(6,.int .i64 s0.2.1,false),(7,.ptr 0 0,false),(8,.bool true,false),(16,sl 8 qg a0,false),(17,.int .i64 ((a0.getD []).length:Int),false),(18,.int .i64 s0.2.1,false),(23,sl 8 qg a0,false),(24,.int .i64 ((a0.getD []).length:Int),false),(25,.int .i64 (qm .i64 (s1.2 + 1)),false)],[.cells [(.str v101.name,false),(.str v101.kd,false),(.int .i64 v101.pa,false),(.int .i64 v101.pb,false),(.int .i64 v101.sa,false),(.int .i64 v101.sb,false),(.int .i64 v101.cost,false),(.int .i64 v101.stock,false)]]++[.cells [(.str v125.name,false),(.str v125.kd,false),(.int .i64 v125.pa,false),(.int .i64 v125.pb,false),(.int .i64 v125.sa,false),(.int .i64 v125.sb,false),(.int .i64 v125.cost,false),(.int .i64 v125.stock,false)]]⟩) (by simp only [go_sem,seval,qd6,ku,h124,jb h126,h127,h128,wh130,h131,h132] <;> rfl) (yd rfl rfl (by first | simp only [go_sem,seval,ku] | rfl) (by first | simp only [go_sem,seval,ku] | rfl))
     ·obtain ⟨v133,h134,h⟩:=qb h
      have wh134:qd pr (X pr) 139 [.agg [.str v101.name,.str v101.kd,.int .i64 v101.pa,.int .i64 v101.pb,.int .i64 v101.sa,.int .i64 v101.sb,.int .i64 v101.cost,.int .i64 v101.stock],.agg [.str v125.name,.str v125.kd,.int .i64 v125.pa,.int .i64 v125.pb,.int .i64 v125.sa,.int .i64 v125.sb,.int .i64 v125.cost,.int .i64 v125.stock]]=some (.bool v133,false):=q7z h134
      cases h
      exact qq (st':=⟨[(0,sl 8 qg a0,false),(5,sl 1 qp s0.1,s0.2.2),(6,.int .i64 s0.2.1,false),(7,.ptr 0 0,false),(8,.bool (!v133),false),(16,sl 8 qg a0,false),(17,.int .i64 ((a0.getD []).length:Int),false),(18,.int .i64 s0.2.1,false),(23,sl 8 qg a0,false),(24,.int .i64 ((a0.getD []).length:Int),false),(25,.int .i64 (qm .i64 (s1.2 + 1)),false)],[.cells [(.str v101.name,false),(.str v101.kd,false),(.int .i64 v101.pa,false),(.int .i64 v101.pb,false),(.int .i64 v101.sa,false),(.int .i64 v101.sb,false),(.int .i64 v101.cost,false),(.int .i64 v101.stock,false)]]++[.cells [(.str v125.name,false),(.str v125.kd,false),(.int .i64 v125.pa,false),(.int .i64 v125.pb,false),(.int .i64 v125.sa,false),(.int .i64 v125.sb,false),(.int .i64 v125.cost,false),(.int .i64 v125.stock,false)]]⟩) (by simp only [go_sem,seval,qd6,ku,h124,jb h126,h127,h128,wh130,h131,h132,wh134] <;> rfl) (yd rfl rfl (by first | simp only [go_sem,seval,ku] | rfl) (by first | simp only [go_sem,seval,ku] | rfl))
    ·cases h
     exact qq (st':=⟨[(0,sl 8 qg a0,false),(5,sl 1 qp s0.1,s0.2.2),(6,.int .i64 s0.2.1,false),(7,.ptr 0 0,false),(8,.bool false,false),(16,sl 8 qg a0,false),(17,.int .i64 ((a0.getD []).length:Int),false),(18,.int .i64 s0.2.1,false),(23,sl 8 qg a0,false),(24,.int .i64 ((a0.getD []).length:Int),false),(25,.int .i64 (qm .i64 (s1.2 + 1)),false)],[.cells [(.str v101.name,false),(.str v101.kd,false),(.int .i64 v101.pa,false),(.int .i64 v101.pb,false),(.int .i64 v101.sa,false),(.int .i64 v101.sb,false),(.int .i64 v101.cost,false),(.int .i64 v101.stock,false)]]++[.cells [(.str v125.name,false),(.str v125.kd,false),(.int .i64 v125.pa,false),(.int .i64 v125.pb,false),(.int .i64 v125.sa,false),(.int .i64 v125.sb,false),(.int .i64 v125.cost,false),(.int .i64 v125.stock,false)]]⟩) (by simp only [go_sem,seval,qd6,ku,h124,jb h126,h127,h128,wh130,h131] <;> rfl) (yd rfl rfl (by first | simp only [go_sem,seval,ku] | rfl) (by first | simp only [go_sem,seval,ku] | rfl))
 ·cases h
  exact ql (by simp only [go_sem,seval,qd6,ku,h124,quj] <;> rfl)
theorem jdh (a0:Option (List qc)) (s0:(Option (List Int)) × Int × Bool) (v101:qc) {s1:Bool × Int} {d} (h:itO (qjs a0 s0 v101) s1=some d):X pr (.loop qd6) (ku a0 s0 v101 s1)=some (quj a0 s0 v101 d):=zi (jf6 a0 s0 v101) (fun d hh=>by cases hh) h
noncomputable def qjq (a0:Option (List qc)) (s0:(Option (List Int)) × Int × Bool):Option (((Option (List Int)) × Int × Bool) ⊕ (((Option (List Int)) × Bool × Int))):=
 cond (decide (s0.2.1 < ((a0.getD []).length:Int)))
  (qh (zm (a0.getD []) s0.2.1) fun v101=>
  qh (itO (qjs a0 s0 v101) (false,0)) fun d135=>
  cond d135.1
   (cond s0.2.2
    (qh (apO s0.1 [s0.2.1]) fun v139=>
    some (.inl (v139,qm .i64 (s0.2.1 + 1),true)))
    (cond s0.1.isNone
     (qh (apO s0.1 [s0.2.1]) fun v142=>
     some (.inl (v142,qm .i64 (s0.2.1 + 1),true)))
     (none)))
   (some (.inl (s0.1,qm .i64 (s0.2.1 + 1),s0.2.2))))
  (some (.inr (s0.1,s0.2.2,s0.2.1)))
def qbn (a0:Option (List qc)) (s0:(Option (List Int)) × Int × Bool):ASt:=⟨[(0,sl 8 qg a0,false),(5,sl 1 qp s0.1,s0.2.2),(16,sl 8 qg a0,false),(17,.int .i64 ((a0.getD []).length:Int),false),(18,.int .i64 s0.2.1,false)],[]⟩
def qsk (a0:Option (List qc)) (d:((Option (List Int)) × Bool × Int)):je × ASt:=(.exit 0,⟨[(0,sl 8 qg a0,false),(5,sl 1 qp d.1,d.2.1),(16,sl 8 qg a0,false),(17,.int .i64 ((a0.getD []).length:Int),false),(18,.int .i64 d.2.2,false),(19,.bool false,false)],[]⟩)
theorem jci (a0:Option (List qc)) (s0:(Option (List Int)) × Int × Bool) (r) (h:qjq a0 s0=some r):j9 pr qhk (qbn a0) (qsk a0) s0 r:=by
 unfold qjq at h
 rcases qa h with ⟨h100,h⟩ | ⟨h100,h⟩
 ·obtain ⟨v101,h102,h⟩:=qb h
  obtain ⟨d135,h136,h⟩:=qb h
  have wh136:X pr (.loop qd6) ⟨[(0,sl 8 qg a0,false),(5,sl 1 qp s0.1,s0.2.2),(6,.int .i64 s0.2.1,false),(7,.ptr 0 0,false),(8,.bool false,false),(16,sl 8 qg a0,false),(17,.int .i64 ((a0.getD []).length:Int),false),(18,.int .i64 s0.2.1,false),(23,sl 8 qg a0,false),(24,.int .i64 ((a0.getD []).length:Int),false),(25,.int .i64 0,false)],[.cells [(.str v101.name,false),(.str v101.kd,false),(.int .i64 v101.pa,false),(.int .i64 v101.pb,false),(.int .i64 v101.sa,false),(.int .i64 v101.sb,false),(.int .i64 v101.cost,false),(.int .i64 v101.stock,false)]]⟩=some (.exit 2,⟨[(0,sl 8 qg a0,false),(5,sl 1 qp s0.1,s0.2.2),(6,.int .i64 s0.2.1,false),(7,.ptr 0 0,false),(8,.bool d135.1,false),(16,sl 8 qg a0,false),(17,.int .i64 ((a0.getD []).length:Int),false),(18,.int .i64 s0.2.1,false),(23,sl 8 qg a0,false),(24,.int .i64 ((a0.getD []).length:Int),false),(25,.int .i64 d135.2,false),(26,.bool false,false)],[.cells [(.str v101.name,false),(.str v101.kd,false),(.int .i64 v101.pa,false),(.int .i64 v101.pb,false),(.int .i64 v101.sa,false),(.int .i64 v101.sb,false),(.int .i64 v101.cost,false),(.int .i64 v101.stock,false)]]⟩):=jdh a0 s0 v101 h136
  rcases qa h with ⟨h137,h⟩ | ⟨h137,h⟩
  ·try simp only [h137] at wh136
   rcases qa h with ⟨h138,h⟩ | ⟨h138,h⟩
   ·try simp only [h138] at wh136
    obtain ⟨v139,h140,h⟩:=qb h
    cases h
    exact qq (st':=⟨[(0,sl 8 qg a0,false),(5,sl 1 qp v139,true),(16,sl 8 qg a0,false),(17,.int .i64 ((a0.getD []).length:Int),false),(18,.int .i64 (qm .i64 (s0.2.1 + 1)),false)],[]++[.cells [(.str v101.name,false),(.str v101.kd,false),(.int .i64 v101.pa,false),(.int .i64 v101.pb,false),(.int .i64 v101.sa,false),(.int .i64 v101.sb,false),(.int .i64 v101.cost,false),(.int .i64 v101.stock,false)]]⟩) (by simp only [go_sem,seval,qhk,qbn,h100,jb h102,wh136,h137,h138,qfn h140] <;> rfl) (yd rfl rfl (by first | simp only [go_sem,seval,qbn] | rfl) (by first | simp only [go_sem,seval,qbn] | rfl))
   ·try simp only [h138] at wh136
    rcases qa h with ⟨h141,h⟩ | ⟨h141,h⟩
    ·try simp only [h141] at wh136
     obtain ⟨v142,h143,h⟩:=qb h
     cases h
     exact qq (st':=⟨[(0,sl 8 qg a0,false),(5,sl 1 qp v142,true),(16,sl 8 qg a0,false),(17,.int .i64 ((a0.getD []).length:Int),false),(18,.int .i64 (qm .i64 (s0.2.1 + 1)),false)],[]++[.cells [(.str v101.name,false),(.str v101.kd,false),(.int .i64 v101.pa,false),(.int .i64 v101.pb,false),(.int .i64 v101.sa,false),(.int .i64 v101.sb,false),(.int .i64 v101.cost,false),(.int .i64 v101.stock,false)]]⟩) (by simp only [go_sem,seval,qhk,qbn,h100,jb h102,wh136,h137,h138,h141,qfm h143 h141] <;> rfl) (yd rfl rfl (by first | simp only [go_sem,seval,qbn] | rfl) (by first | simp only [go_sem,seval,qbn] | rfl))
    ·try simp only [h141] at wh136
     cases h
  ·try simp only [h137] at wh136
   cases h
   exact qq (st':=⟨[(0,sl 8 qg a0,false),(5,sl 1 qp s0.1,s0.2.2),(16,sl 8 qg a0,false),(17,.int .i64 ((a0.getD []).length:Int),false),(18,.int .i64 (qm .i64 (s0.2.1 + 1)),false)],[]++[.cells [(.str v101.name,false),(.str v101.kd,false),(.int .i64 v101.pa,false),(.int .i64 v101.pb,false),(.int .i64 v101.sa,false),(.int .i64 v101.sb,false),(.int .i64 v101.cost,false),(.int .i64 v101.stock,false)]]⟩) (by simp only [go_sem,seval,qhk,qbn,h100,jb h102,wh136,h137] <;> rfl) (yd rfl rfl (by first | simp only [go_sem,seval,qbn] | rfl) (by first | simp only [go_sem,seval,qbn] | rfl))
 ·cases h
  exact ql (by simp only [go_sem,seval,qhk,qbn,h100,qsk] <;> rfl)
theorem jch (a0:Option (List qc)) {s0:(Option (List Int)) × Int × Bool} {d} (h:itO (qjq a0) s0=some d):X pr (.loop qhk) (qbn a0 s0)=some (qsk a0 d):=zi (jci a0) (fun d hh=>by cases hh) h
noncomputable def f70 (a0:Option (List qc)):Option ((Option (List Int)) × Int):=
 qh (f23 a0) fun v1=>
 cond (decide (v1=0))
  (qh (itO (qjq a0) (none,0,false)) fun d144=>
  some (d144.1,0))
  (some (none,v1))
theorem W70 {a0:Option (List qc)} {r} (h:f70 a0=some r):qd pr (X pr) 70 [sl 8 qg a0]=some (.tup [sl 1 qp r.1,.int .i64 r.2],false):=by
 unfold f70 at h
 obtain ⟨v1,h2,h⟩:=qb h
 rcases qa h with ⟨h3,h⟩ | ⟨h3,h⟩
 ·obtain ⟨d144,h145,h⟩:=qb h
  have wh145:X pr (.loop qhk) ⟨[(0,sl 8 qg a0,false),(5,.list true 0 [],false),(16,sl 8 qg a0,false),(17,.int .i64 ((a0.getD []).length:Int),false),(18,.int .i64 0,false)],[]⟩=some (.exit 0,⟨[(0,sl 8 qg a0,false),(5,sl 1 qp d144.1,d144.2.1),(16,sl 8 qg a0,false),(17,.int .i64 ((a0.getD []).length:Int),false),(18,.int .i64 d144.2.2,false),(19,.bool false,false)],[]⟩):=jch a0 h145
  have hr:(d144.1,0)=r:=Option.some.inj h
  subst hr
  refine qu rfl ?_ (fun _=>by first | rfl | simp only [go_sem,seval]) (by first | rfl | simp only [go_sem,seval])
  rw [qf (show pr.fns 70=some c70 from rfl) (by simp)]
  simp only [go_sem,seval,c70,W23 h2,h3,wh145]
  exact ⟨_,rfl⟩
 ·have hr:(none,v1)=r:=Option.some.inj h
  subst hr
  refine qu rfl ?_ (fun _=>by first | rfl | simp only [go_sem,seval]) (by first | rfl | simp only [go_sem,seval])
  rw [qf (show pr.fns 70=some c70 from rfl) (by simp)]
  simp only [go_sem,seval,c70,W23 h2,h3]
  exact ⟨_,rfl⟩
noncomputable def qda (v1:(Option (List GEl)) × Bool) (v3:(Option (List GEl)) × Bool) (s0:Int) (s1:Bool × Int):Option ((Bool × Int) ⊕ ((Bool × Int))):=
 cond (decide (s1.2 < ((v3.1.getD []).length:Int)))
  (cond s1.1
   (some (.inl (true,qm .i64 (s1.2 + 1))))
   (qh (zm (v1.1.getD []) s0) fun v67=>
   qh (zm (v3.1.getD []) s1.2) fun v69=>
   some (.inl ((decide (v67.kind=v69.kind) && decide (v67.a=v69.a) && decide (v67.b=v69.b)),qm .i64 (s1.2 + 1)))))
  (some (.inr (s1.1,s1.2)))
def qia (v1:(Option (List GEl)) × Bool) (v3:(Option (List GEl)) × Bool) (s0:Int) (s1:Bool × Int):ASt:=⟨[(5,sl 3 vel v1.1,v1.2),(6,sl 3 vel v3.1,v3.2),(7,.int .i64 s0,false),(8,.bool s1.1,false),(9,.int .i64 s1.2,false)],[]⟩
def qpn (v1:(Option (List GEl)) × Bool) (v3:(Option (List GEl)) × Bool) (s0:Int) (d:(Bool × Int)):je × ASt:=(.exit 2,⟨[(5,sl 3 vel v1.1,v1.2),(6,sl 3 vel v3.1,v3.2),(7,.int .i64 s0,false),(8,.bool d.1,false),(9,.int .i64 d.2,false),(23,.bool false,false)],[]⟩)
theorem q7k (v1:(Option (List GEl)) × Bool) (v3:(Option (List GEl)) × Bool) (s0:Int) (s1:Bool × Int) (r) (h:qda v1 v3 s0 s1=some r):j9 pr qgo (qia v1 v3 s0) (qpn v1 v3 s0) s1 r:=by
 unfold qda at h
 rcases qa h with ⟨h65,h⟩ | ⟨h65,h⟩
 ·rcases qa h with ⟨h66,h⟩ | ⟨h66,h⟩
  ·cases h
   exact qq (st':=⟨[(5,sl 3 vel v1.1,v1.2),(6,sl 3 vel v3.1,v3.2),(7,.int .i64 s0,false),(8,.bool true,false),(9,.int .i64 (qm .i64 (s1.2 + 1)),false)],[]⟩) (by simp only [go_sem,seval,qgo,qia,h65,h66] <;> rfl) (qy (Nat.le_refl _))
  ·obtain ⟨v67,h68,h⟩:=qb h
   obtain ⟨v69,h70,h⟩:=qb h
   cases h
   exact qq (st':=⟨[(5,sl 3 vel v1.1,v1.2),(6,sl 3 vel v3.1,v3.2),(7,.int .i64 s0,false),(8,.bool (decide (v67.kind=v69.kind) && decide (v67.a=v69.a) && decide (v67.b=v69.b)),false),(9,.int .i64 (qm .i64 (s1.2 + 1)),false)],[]⟩) (by simp only [go_sem,seval,qgo,qia,h65,h66,jb h68,jb h70] <;> rfl) (qy (Nat.le_refl _))
 ·cases h
  exact ql (by simp only [go_sem,seval,qgo,qia,h65,qpn] <;> rfl)
theorem q6r (v1:(Option (List GEl)) × Bool) (v3:(Option (List GEl)) × Bool) (s0:Int) {s1:Bool × Int} {d} (h:itO (qda v1 v3 s0) s1=some d):X pr (.loop qgo) (qia v1 v3 s0 s1)=some (qpn v1 v3 s0 d):=zi (q7k v1 v3 s0) (fun d hh=>by cases hh) h
noncomputable def qf6 (v1:(Option (List GEl)) × Bool) (v3:(Option (List GEl)) × Bool) (s0:Int):Option (Int ⊕ (Unit ⊕ Int)):=
 cond (decide (s0 < ((v1.1.getD []).length:Int)))
  (qh (itO (qda v1 v3 s0) (false,0)) fun d71=>
  cond d71.1
   (some (.inl (qm .i64 (s0 + 1))))
   (some (.inr (.inl ()))))
  (some (.inr (.inr s0)))
def qii (v1:(Option (List GEl)) × Bool) (v3:(Option (List GEl)) × Bool) (s0:Int):ASt:=⟨[(5,sl 3 vel v1.1,v1.2),(6,sl 3 vel v3.1,v3.2),(7,.int .i64 s0,false)],[]⟩
def qmu (v1:(Option (List GEl)) × Bool) (v3:(Option (List GEl)) × Bool):Unit ⊕ Int→je × ASt
 | .inl d=>(.ret,⟨[(4,.bool false,false)],[]⟩)
 | .inr d=>(.exit 0,⟨[(5,sl 3 vel v1.1,v1.2),(6,sl 3 vel v3.1,v3.2),(7,.int .i64 d,false),(17,.bool false,false)],[]⟩)
theorem q8g (v1:(Option (List GEl)) × Bool) (v3:(Option (List GEl)) × Bool) (s0:Int) (r) (h:qf6 v1 v3 s0=some r):j9 pr qeq (qii v1 v3) (qmu v1 v3) s0 r:=by
 unfold qf6 at h
 rcases qa h with ⟨h53,h⟩ | ⟨h53,h⟩
 ·obtain ⟨d71,h72,h⟩:=qb h
  have wh72:X pr (.loop qgo) ⟨[(5,sl 3 vel v1.1,v1.2),(6,sl 3 vel v3.1,v3.2),(7,.int .i64 s0,false),(8,.bool false,false),(9,.int .i64 0,false)],[]⟩=some (.exit 2,⟨[(5,sl 3 vel v1.1,v1.2),(6,sl 3 vel v3.1,v3.2),(7,.int .i64 s0,false),(8,.bool d71.1,false),(9,.int .i64 d71.2,false),(23,.bool false,false)],[]⟩):=q6r v1 v3 s0 h72
  rcases qa h with ⟨h73,h⟩ | ⟨h73,h⟩
  ·cases h
   exact qq (st':=⟨[(5,sl 3 vel v1.1,v1.2),(6,sl 3 vel v3.1,v3.2),(7,.int .i64 (qm .i64 (s0 + 1)),false)],[]⟩) (by simp only [go_sem,seval,qeq,qii,h53,wh72,h73] <;> rfl) (qy (Nat.le_refl _))
  ·cases h
   exact ql (by simp only [go_sem,seval,qeq,qii,h53,wh72,h73,qmu] <;> rfl)
 ·cases h
  exact ql (by simp only [go_sem,seval,qeq,qii,h53,qmu] <;> rfl)
theorem qys (v1:(Option (List GEl)) × Bool) (v3:(Option (List GEl)) × Bool) {s0:Int} {d} (h:itO (qf6 v1 v3) s0=some d):X pr (.loop qeq) (qii v1 v3 s0)=some (qmu v1 v3 d):=zi (q8g v1 v3) (fun d=>by rcases d with d|d <;> (intro hh; cases hh)) h
noncomputable def f181 (a0:qc) (a1:qc):Option Bool:=
 qh (f104 a0) fun v1=>
 qh (f104 a1) fun v3=>
 qh (itO (qf6 v1 v3) 0) fun d74=>match d74 with
  | .inl d76=>
   some false
  | .inr d77=>
   some true
theorem jjw {a0:qc} {a1:qc} {r} (h:f181 a0 a1=some r):qd pr (X pr) 181 [.agg [.str a0.name,.str a0.kd,.int .i64 a0.pa,.int .i64 a0.pb,.int .i64 a0.sa,.int .i64 a0.sb,.int .i64 a0.cost,.int .i64 a0.stock],.agg [.str a1.name,.str a1.kd,.int .i64 a1.pa,.int .i64 a1.pb,.int .i64 a1.sa,.int .i64 a1.sb,.int .i64 a1.cost,.int .i64 a1.stock]]=some (.bool r,false):=by
 unfold f181 at h
 obtain ⟨v1,h2,h⟩:=qb h
 have wh2:qd pr (X pr) 104 [.agg [.str a0.name,.str a0.kd,.int .i64 a0.pa,.int .i64 a0.pb,.int .i64 a0.sa,.int .i64 a0.sb,.int .i64 a0.cost,.int .i64 a0.stock]]=some (sl 3 vel v1.1,v1.2):=q2a h2
 obtain ⟨v3,h4,h⟩:=qb h
 have wh4:qd pr (X pr) 104 [.agg [.str a1.name,.str a1.kd,.int .i64 a1.pa,.int .i64 a1.pb,.int .i64 a1.sa,.int .i64 a1.sb,.int .i64 a1.cost,.int .i64 a1.stock]]=some (sl 3 vel v3.1,v3.2):=q2a h4
 obtain ⟨d74,h75,h⟩:=qb h
 rcases d74 with d76 | d77
 ·have wh75:X pr (.loop qeq) ⟨[(5,sl 3 vel v1.1,v1.2),(6,sl 3 vel v3.1,v3.2),(7,.int .i64 0,false)],[]⟩=some (.ret,⟨[(4,.bool false,false)],[]⟩):=qys v1 v3 h75
  have hr:false=r:=Option.some.inj h
  subst hr
  refine qu rfl ?_ (fun _=>by first | rfl | simp only [go_sem,seval]) (by first | rfl | simp only [go_sem,seval])
  rw [qf (show pr.fns 181=some c181 from rfl) (by simp)]
  simp only [go_sem,seval,c181,wh2,wh4,wh75]
  exact ⟨_,rfl⟩
 ·have wh75:X pr (.loop qeq) ⟨[(5,sl 3 vel v1.1,v1.2),(6,sl 3 vel v3.1,v3.2),(7,.int .i64 0,false)],[]⟩=some (.exit 0,⟨[(5,sl 3 vel v1.1,v1.2),(6,sl 3 vel v3.1,v3.2),(7,.int .i64 d77,false),(17,.bool false,false)],[]⟩):=qys v1 v3 h75
  have hr:true=r:=Option.some.inj h
  subst hr
  refine qu rfl ?_ (fun _=>by first | rfl | simp only [go_sem,seval]) (by first | rfl | simp only [go_sem,seval])
  rw [qf (show pr.fns 181=some c181 from rfl) (by simp)]
  simp only [go_sem,seval,c181,wh2,wh4,wh75]
  exact ⟨_,rfl⟩
noncomputable def f140 (a0:qc) (a1:qc):Option Bool:=
 qh (f181 a0 a1) fun v1=>
 cond v1
  (cond (decide (a0.cost≤a1.cost))
   (some (decide (a1.stock≤a0.stock)))
   (some false))
  (some false)
theorem q8f {a0:qc} {a1:qc} {r} (h:f140 a0 a1=some r):qd pr (X pr) 140 [.agg [.str a0.name,.str a0.kd,.int .i64 a0.pa,.int .i64 a0.pb,.int .i64 a0.sa,.int .i64 a0.sb,.int .i64 a0.cost,.int .i64 a0.stock],.agg [.str a1.name,.str a1.kd,.int .i64 a1.pa,.int .i64 a1.pb,.int .i64 a1.sa,.int .i64 a1.sb,.int .i64 a1.cost,.int .i64 a1.stock]]=some (.bool r,false):=by
 unfold f140 at h
 obtain ⟨v1,h2,h⟩:=qb h
 have wh2:qd pr (X pr) 181 [.agg [.str a0.name,.str a0.kd,.int .i64 a0.pa,.int .i64 a0.pb,.int .i64 a0.sa,.int .i64 a0.sb,.int .i64 a0.cost,.int .i64 a0.stock],.agg [.str a1.name,.str a1.kd,.int .i64 a1.pa,.int .i64 a1.pb,.int .i64 a1.sa,.int .i64 a1.sb,.int .i64 a1.cost,.int .i64 a1.stock]]=some (.bool v1,false):=jjw h2
 rcases qa h with ⟨h3,h⟩ | ⟨h3,h⟩
 ·rcases qa h with ⟨h4,h⟩ | ⟨h4,h⟩
  ·have hr:decide (a1.stock≤a0.stock)=r:=Option.some.inj h
   subst hr
   refine qu rfl ?_ (fun _=>by first | rfl | simp only [go_sem,seval]) (by first | rfl | simp only [go_sem,seval])
   rw [qf (show pr.fns 140=some c140 from rfl) (by simp)]
   simp only [go_sem,seval,c140,wh2,h3,h4]
   exact ⟨_,rfl⟩
  ·have hr:false=r:=Option.some.inj h
   subst hr
   refine qu rfl ?_ (fun _=>by first | rfl | simp only [go_sem,seval]) (by first | rfl | simp only [go_sem,seval])
   rw [qf (show pr.fns 140=some c140 from rfl) (by simp)]
   simp only [go_sem,seval,c140,wh2,h3,h4]
   exact ⟨_,rfl⟩
 ·have hr:false=r:=Option.some.inj h
  subst hr
  refine qu rfl ?_ (fun _=>by first | rfl | simp only [go_sem,seval]) (by first | rfl | simp only [go_sem,seval])
  rw [qf (show pr.fns 140=some c140 from rfl) (by simp)]
  simp only [go_sem,seval,c140,wh2,h3]
  exact ⟨_,rfl⟩
noncomputable def qja (a0:Option (List qc)) (s0:(Option (List Int)) × Int × Bool) (s1:Bool × Int):Option ((Bool × Int) ⊕ ((Bool × Int))):=
 cond (decide (s1.2 < ((a0.getD []).length:Int)))
  (cond s1.1
   (some (.inl (true,qm .i64 (s1.2 + 1))))
   (cond (decide (s1.2=s0.2.1))
    (some (.inl (false,qm .i64 (s1.2 + 1))))
    (qh (zm (a0.getD []) s1.2) fun v134=>
    qh (zm (a0.getD []) s0.2.1) fun v136=>
    qh (f140 v134 v136) fun v138=>
    cond v138
     (cond (decide (s1.2 < s0.2.1))
      (some (.inl (true,qm .i64 (s1.2 + 1))))
      (qh (f140 v136 v134) fun v142=>
      some (.inl (!v142,qm .i64 (s1.2 + 1)))))
     (some (.inl (false,qm .i64 (s1.2 + 1)))))))
  (some (.inr (s1.1,s1.2)))
def qes (a0:Option (List qc)) (s0:(Option (List Int)) × Int × Bool) (s1:Bool × Int):ASt:=⟨[(0,sl 8 qg a0,false),(3,sl 1 qp s0.1,s0.2.2),(4,.int .i64 s0.2.1,false),(5,.bool s1.1,false),(6,.int .i64 s1.2,false)],[]⟩
def qte (a0:Option (List qc)) (s0:(Option (List Int)) × Int × Bool) (d:(Bool × Int)):je × ASt:=(.exit 2,⟨[(0,sl 8 qg a0,false),(3,sl 1 qp s0.1,s0.2.2),(4,.int .i64 s0.2.1,false),(5,.bool d.1,false),(6,.int .i64 d.2,false),(16,.bool false,false)],[]⟩)
theorem jbd (a0:Option (List qc)) (s0:(Option (List Int)) × Int × Bool) (s1:Bool × Int) (r) (h:qja a0 s0 s1=some r):j9 pr qd7 (qes a0 s0) (qte a0 s0) s1 r:=by
 unfold qja at h
 rcases qa h with ⟨h131,h⟩ | ⟨h131,h⟩
 ·rcases qa h with ⟨h132,h⟩ | ⟨h132,h⟩
  ·cases h
   exact qq (st':=⟨[(0,sl 8 qg a0,false),(3,sl 1 qp s0.1,s0.2.2),(4,.int .i64 s0.2.1,false),(5,.bool true,false),(6,.int .i64 (qm .i64 (s1.2 + 1)),false)],[]⟩) (by simp only [go_sem,seval,qd7,qes,h131,h132] <;> rfl) (qy (Nat.le_refl _))
  ·rcases qa h with ⟨h133,h⟩ | ⟨h133,h⟩
   ·cases h
    exact qq (st':=⟨[(0,sl 8 qg a0,false),(3,sl 1 qp s0.1,s0.2.2),(4,.int .i64 s0.2.1,false),(5,.bool false,false),(6,.int .i64 (qm .i64 (s1.2 + 1)),false)],[]⟩) (by simp only [go_sem,seval,qd7,qes,h131,h132,h133] <;> rfl) (qy (Nat.le_refl _))
   ·obtain ⟨v134,h135,h⟩:=qb h
    obtain ⟨v136,h137,h⟩:=qb h
    obtain ⟨v138,h139,h⟩:=qb h
    have wh139:qd pr (X pr) 140 [.agg [.str v134.name,.str v134.kd,.int .i64 v134.pa,.int .i64 v134.pb,.int .i64 v134.sa,.int .i64 v134.sb,.int .i64 v134.cost,.int .i64 v134.stock],.agg [.str v136.name,.str v136.kd,.int .i64 v136.pa,.int .i64 v136.pb,.int .i64 v136.sa,.int .i64 v136.sb,.int .i64 v136.cost,.int .i64 v136.stock]]=some (.bool v138,false):=q8f h139
    rcases qa h with ⟨h140,h⟩ | ⟨h140,h⟩
    ·rcases qa h with ⟨h141,h⟩ | ⟨h141,h⟩
     ·cases h
      exact qq (st':=⟨[(0,sl 8 qg a0,false),(3,sl 1 qp s0.1,s0.2.2),(4,.int .i64 s0.2.1,false),(5,.bool true,false),(6,.int .i64 (qm .i64 (s1.2 + 1)),false)],[]⟩) (by simp only [go_sem,seval,qd7,qes,h131,h132,h133,jb h135,jb h137,wh139,h140,h141] <;> rfl) (qy (Nat.le_refl _))
     ·obtain ⟨v142,h143,h⟩:=qb h
      have wh143:qd pr (X pr) 140 [.agg [.str v136.name,.str v136.kd,.int .i64 v136.pa,.int .i64 v136.pb,.int .i64 v136.sa,.int .i64 v136.sb,.int .i64 v136.cost,.int .i64 v136.stock],.agg [.str v134.name,.str v134.kd,.int .i64 v134.pa,.int .i64 v134.pb,.int .i64 v134.sa,.int .i64 v134.sb,.int .i64 v134.cost,.int .i64 v134.stock]]=some (.bool v142,false):=q8f h143
      cases h
      exact qq (st':=⟨[(0,sl 8 qg a0,false),(3,sl 1 qp s0.1,s0.2.2),(4,.int .i64 s0.2.1,false),(5,.bool (!v142),false),(6,.int .i64 (qm .i64 (s1.2 + 1)),false)],[]⟩) (by simp only [go_sem,seval,qd7,qes,h131,h132,h133,jb h135,jb h137,wh139,h140,h141,wh143] <;> rfl) (qy (Nat.le_refl _))
    ·cases h
     exact qq (st':=⟨[(0,sl 8 qg a0,false),(3,sl 1 qp s0.1,s0.2.2),(4,.int .i64 s0.2.1,false),(5,.bool false,false),(6,.int .i64 (qm .i64 (s1.2 + 1)),false)],[]⟩) (by simp only [go_sem,seval,qd7,qes,h131,h132,h133,jb h135,jb h137,wh139,h140] <;> rfl) (qy (Nat.le_refl _))
 ·cases h
  exact ql (by simp only [go_sem,seval,qd7,qes,h131,qte] <;> rfl)
theorem jfk (a0:Option (List qc)) (s0:(Option (List Int)) × Int × Bool) {s1:Bool × Int} {d} (h:itO (qja a0 s0) s1=some d):X pr (.loop qd7) (qes a0 s0 s1)=some (qte a0 s0 d):=zi (jbd a0 s0) (fun d hh=>by cases hh) h
noncomputable def qjy (a0:Option (List qc)) (s0:(Option (List Int)) × Int × Bool):Option (((Option (List Int)) × Int × Bool) ⊕ (((Option (List Int)) × Bool × Int))):=
 cond (decide (s0.2.1 < ((a0.getD []).length:Int)))
  (qh (itO (qja a0 s0) (false,0)) fun d144=>
  cond d144.1
   (cond s0.2.2
    (qh (apO s0.1 [s0.2.1]) fun v148=>
    some (.inl (v148,qm .i64 (s0.2.1 + 1),true)))
    (cond s0.1.isNone
     (qh (apO s0.1 [s0.2.1]) fun v151=>
     some (.inl (v151,qm .i64 (s0.2.1 + 1),true)))
     (none)))
   (some (.inl (s0.1,qm .i64 (s0.2.1 + 1),s0.2.2))))
  (some (.inr (s0.1,s0.2.2,s0.2.1)))
def qie (a0:Option (List qc)) (s0:(Option (List Int)) × Int × Bool):ASt:=⟨[(0,sl 8 qg a0,false),(3,sl 1 qp s0.1,s0.2.2),(4,.int .i64 s0.2.1,false)],[]⟩
def qsx (a0:Option (List qc)) (d:((Option (List Int)) × Bool × Int)):je × ASt:=(.exit 0,⟨[(0,sl 8 qg a0,false),(3,sl 1 qp d.1,d.2.1),(4,.int .i64 d.2.2,false),(10,.bool false,false)],[]⟩)
theorem jbc (a0:Option (List qc)) (s0:(Option (List Int)) × Int × Bool) (r) (h:qjy a0 s0=some r):j9 pr qhm (qie a0) (qsx a0) s0 r:=by
 unfold qjy at h
 rcases qa h with ⟨h105,h⟩ | ⟨h105,h⟩
 ·obtain ⟨d144,h145,h⟩:=qb h
  have wh145:X pr (.loop qd7) ⟨[(0,sl 8 qg a0,false),(3,sl 1 qp s0.1,s0.2.2),(4,.int .i64 s0.2.1,false),(5,.bool false,false),(6,.int .i64 0,false)],[]⟩=some (.exit 2,⟨[(0,sl 8 qg a0,false),(3,sl 1 qp s0.1,s0.2.2),(4,.int .i64 s0.2.1,false),(5,.bool d144.1,false),(6,.int .i64 d144.2,false),(16,.bool false,false)],[]⟩):=jfk a0 s0 h145
  rcases qa h with ⟨h146,h⟩ | ⟨h146,h⟩
  ·try simp only [h146] at wh145
   rcases qa h with ⟨h147,h⟩ | ⟨h147,h⟩
   ·try simp only [h147] at wh145
    obtain ⟨v148,h149,h⟩:=qb h
    cases h
    exact qq (st':=⟨[(0,sl 8 qg a0,false),(3,sl 1 qp v148,true),(4,.int .i64 (qm .i64 (s0.2.1 + 1)),false)],[]⟩) (by simp only [go_sem,seval,qhm,qie,h105,wh145,h146,h147,qfn h149] <;> rfl) (qy (Nat.le_refl _))
   ·try simp only [h147] at wh145
    rcases qa h with ⟨h150,h⟩ | ⟨h150,h⟩
    ·try simp only [h150] at wh145
     obtain ⟨v151,h152,h⟩:=qb h
     cases h
     exact qq (st':=⟨[(0,sl 8 qg a0,false),(3,sl 1 qp v151,true),(4,.int .i64 (qm .i64 (s0.2.1 + 1)),false)],[]⟩) (by simp only [go_sem,seval,qhm,qie,h105,wh145,h146,h147,h150,qfm h152 h150] <;> rfl) (qy (Nat.le_refl _))
    ·try simp only [h150] at wh145
     cases h
  ·try simp only [h146] at wh145
   cases h
   exact qq (st':=⟨[(0,sl 8 qg a0,false),(3,sl 1 qp s0.1,s0.2.2),(4,.int .i64 (qm .i64 (s0.2.1 + 1)),false)],[]⟩) (by simp only [go_sem,seval,qhm,qie,h105,wh145,h146] <;> rfl) (qy (Nat.le_refl _))
 ·cases h
  exact ql (by simp only [go_sem,seval,qhm,qie,h105,qsx] <;> rfl)
theorem jff (a0:Option (List qc)) {s0:(Option (List Int)) × Int × Bool} {d} (h:itO (qjy a0) s0=some d):X pr (.loop qhm) (qie a0 s0)=some (qsx a0 d):=zi (jbc a0) (fun d hh=>by cases hh) h
noncomputable def f73 (a0:Option (List qc)):Option ((Option (List Int)) × Bool):=
 qh (itO (qjy a0) (none,0,false)) fun d153=>
 some (d153.1,d153.2.1)
theorem W73 {a0:Option (List qc)} {r} (h:f73 a0=some r):qd pr (X pr) 73 [sl 8 qg a0]=some (sl 1 qp r.1,r.2):=by
 unfold f73 at h
 obtain ⟨d153,h154,h⟩:=qb h
 have wh154:X pr (.loop qhm) ⟨[(0,sl 8 qg a0,false),(3,.list true 0 [],false),(4,.int .i64 0,false)],[]⟩=some (.exit 0,⟨[(0,sl 8 qg a0,false),(3,sl 1 qp d153.1,d153.2.1),(4,.int .i64 d153.2.2,false),(10,.bool false,false)],[]⟩):=jff a0 h154
 have hr:(d153.1,d153.2.1)=r:=Option.some.inj h
 subst hr
 have this:∃ hh,jm pr (X pr) 73 [sl 8 qg a0] []=some (sl 1 qp d153.1,d153.2.1,hh):=by
  rw [qf (show pr.fns 73=some c73 from rfl) (by simp)]
  simp only [go_sem,seval,c73,wh154]
  exact ⟨_,rfl⟩
 obtain ⟨hh,this⟩:=this
 exact zz rfl this (by first | rfl | simp only [go_sem,seval]) (by first | rfl | simp only [go_sem,seval]) (by first | rfl | simp only [go_sem,seval])
end Go.Z
