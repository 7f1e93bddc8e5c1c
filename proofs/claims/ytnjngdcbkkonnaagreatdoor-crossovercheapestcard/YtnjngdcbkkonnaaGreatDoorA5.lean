/- Chapter 4. -/
import Derived.Test.YtnjngdcbkkonnaaGreatDoorA4
set_option linter.unusedVariables false
set_option linter.unusedSimpArgs false
set_option maxRecDepth 100000
set_option maxHeartbeats 4000000
namespace Go.Z
open Go Go.Abs
noncomputable def f132 (a0:zm) (a1:qy) (c0_0:Int) (c0_1:Int):Option ((qy × Int)):=
 cond (decide (a0.m0=0) && decide (a0.m1=0))
  (some (⟨0,0⟩,17))
  (qc (f175 a1) fun v2=>
  qc (f175 (⟨a0.m0,a0.m1⟩)) fun v4=>
  qc (f174 v2 v4) fun v6=>
  some (v6,0))
theorem jt7 {a0:zm} {a1:qy} {c0_0:Int} {c0_1:Int} {r} (h:f132 a0 a1 c0_0 c0_1=some r):jg pr (X pr) 132 [.agg [.int .i64 a0.m0,.int .i64 a0.m1,.int .i64 a0.m2,.int .i64 a0.m3,.int .i64 a0.m4,.int .i64 a0.m5,.int .i64 a0.m6,.int .i64 a0.m7],.agg [.int .i64 a1.num,.int .i64 a1.den]] [.cells [(.int .i64 c0_0,false),(.int .i64 c0_1,false)]]=some (.tup [.agg [.int .i64 r.1.num,.int .i64 r.1.den],.int .i64 r.2],false,[.cells [(.int .i64 c0_0,false),(.int .i64 c0_1,false)],.cells [(.int .i64 r.1.num,false),(.int .i64 r.1.den,false)]]):=by
 unfold f132 at h
 rcases qb h with ⟨h1,h⟩ | ⟨h1,h⟩
 ·have hr:(⟨0,0⟩,17)=r:=Option.some.inj h
  subst hr
  rw [j8 (show pr.fns 132=some c132 from rfl) (by simp)]
  simp only [go_sem,seval,c132,h1] <;> rfl
 obtain ⟨v2,h3,h⟩:=qa h
 have wh3:=jg0 h3
 obtain ⟨v4,h5,h⟩:=qa h
 have wh5:=jg0 h5
 obtain ⟨v6,h7,h⟩:=qa h
 have hr:(v6,0)=r:=Option.some.inj h
 subst hr
 rw [j8 (show pr.fns 132=some c132 from rfl) (by simp)]
 simp only [go_sem,seval,c132,h1,wh3,wh5,juq h7] <;> rfl
noncomputable def f131 (a0:TE) (a1:Int):Option (qy × Int):=
 qc (f158 a0) fun v1=>
 qc (f172 a1) fun v3=>
 qc (f171 (some [v1,v3])) fun v5=>
 cond (decide (v5=0))
  (qc (f173 a0 a1) fun v8=>
  qc (f132 v8.1 v8.2 0 0) fun v10=>
  some (v10.1,v10.2))
  (some (⟨0,0⟩,v5))
theorem jwi {a0:TE} {a1:Int} {r} (h:f131 a0 a1=some r):qf pr (X pr) 131 [sl 3 vel a0,.int .i64 a1,.fn (.func 132) [] []]=some (.tup [.agg [.int .i64 r.1.num,.int .i64 r.1.den],.int .i64 r.2],false):=by
 unfold f131 at h
 obtain ⟨v1,h2,h⟩:=qa h
 obtain ⟨v3,h4,h⟩:=qa h
 obtain ⟨v5,h6,h⟩:=qa h
 have wh6:qf pr (X pr) 171 [.list false 1 [.int .i64 v1,.int .i64 v3]]=some (.int .i64 v5,false):=qpd h6
 rcases qb h with ⟨h7,h⟩ | ⟨h7,h⟩
 ·obtain ⟨v8,h9,h⟩:=qa h
  obtain ⟨v10,h11,h⟩:=qa h
  have wh11:jg pr (X pr) 132 [.agg [.int .i64 v8.1.m0,.int .i64 v8.1.m1,.int .i64 v8.1.m2,.int .i64 v8.1.m3,.int .i64 v8.1.m4,.int .i64 v8.1.m5,.int .i64 v8.1.m6,.int .i64 v8.1.m7],.agg [.int .i64 v8.2.num,.int .i64 v8.2.den]] [.cells [(.int .i64 0,false),(.int .i64 0,false)]]=some (.tup [.agg [.int .i64 v10.1.num,.int .i64 v10.1.den],.int .i64 v10.2],false,[.cells [(.int .i64 0,false),(.int .i64 0,false)],.cells [(.int .i64 v10.1.num,false),(.int .i64 v10.1.den,false)]]):=jt7 h11
  obtain rfl:=Option.some.inj h
  refine qn (f:=c131) rfl rfl rfl (by first | rfl | simp only [go_sem,seval]) ?_
  simp only [go_sem,seval,c131,q36 h2,jjb h4,wh6,h7,jus h9,wh11]
  exact ⟨_,rfl⟩
 obtain rfl:=Option.some.inj h
 refine qn (f:=c131) rfl rfl rfl (by first | rfl | simp only [go_sem,seval]) ?_
 simp only [go_sem,seval,c131,q36 h2,jjb h4,wh6,h7]
 exact ⟨_,rfl⟩
noncomputable def f57 (a0:TE) (a1:Int):Option (qy × Int):=
 qc (f131 a0 a1) fun v1=>
 some (v1.1,v1.2)
theorem W57 {a0:TE} {a1:Int} {r} (h:f57 a0 a1=some r):qf pr (X pr) 57 [sl 3 vel a0,.int .i64 a1]=some (.tup [.agg [.int .i64 r.1.num,.int .i64 r.1.den],.int .i64 r.2],false):=by
 unfold f57 at h
 obtain ⟨v1,h2,h⟩:=qa h
 have wh2:qf pr (X pr) 131 [sl 3 vel a0,.int .i64 a1,.fn (.func 132) [] []]=some (.tup [.agg [.int .i64 v1.1.num,.int .i64 v1.1.den],.int .i64 v1.2],false):=jwi h2
 obtain rfl:=Option.some.inj h
 refine qn (f:=c57) rfl rfl rfl (by first | rfl | simp only [go_sem,seval]) ?_
 simp only [go_sem,seval,c57,wh2]
 exact ⟨_,rfl⟩
noncomputable def f165 (a0:Int) (a1:Int):Option (Int × Int):=
 qc (qp2 .u64 a0 32) fun v1=>
 qc (qp2 .u64 a1 32) fun v3=>
 qc (qp2 .u64 (qg .u64 ((qny .and .u64 a0 4294967295) * (qny .and .u64 a1 4294967295))) 32) fun v5=>
 qc (qp2 .u64 (qg .u64 ((qg .u64 (v1 * (qny .and .u64 a1 4294967295))) + v5)) 32) fun v7=>
 qc (qp2 .u64 (qg .u64 ((qny .and .u64 (qg .u64 ((qg .u64 (v1 * (qny .and .u64 a1 4294967295))) + v5)) 4294967295) + (qg .u64 ((qny .and .u64 a0 4294967295) * v3)))) 32) fun v9=>
 some (qg .u64 ((qg .u64 ((qg .u64 (v1 * v3)) + v7)) + v9),qg .u64 (a0 * a1))
theorem ji6 {a0:Int} {a1:Int} {r} (h:f165 a0 a1=some r):qf pr (X pr) 165 [.int .u64 a0,.int .u64 a1]=some (.tup [.int .u64 r.1,.int .u64 r.2],false):=by
 unfold f165 at h
 obtain ⟨v1,h2,h⟩:=qa h
 obtain ⟨v3,h4,h⟩:=qa h
 obtain ⟨v5,h6,h⟩:=qa h
 obtain ⟨v7,h8,h⟩:=qa h
 obtain ⟨v9,h10,h⟩:=qa h
 obtain rfl:=Option.some.inj h
 refine qn (f:=c165) rfl rfl rfl (by first | rfl | simp only [go_sem,seval]) ?_
 simp only [go_sem,seval,c165,qm1 h2,qm1 h4,qm1 h6,qm1 h8,qm1 h10]
 exact ⟨_,rfl⟩
noncomputable def f127 (a0:qy) (a1:qy):Option Bool:=
 qc (f165 (qg .u64 a0.num) (qg .u64 a1.den)) fun v1=>
 qc (f165 (qg .u64 a1.num) (qg .u64 a0.den)) fun v3=>
 cond (decide (v3.1 < v1.1))
  (some true)
  (cond (decide (v1.1=v3.1))
   (some (decide (v3.2 < v1.2)))
   (some false))
theorem q8x {a0:qy} {a1:qy} {r} (h:f127 a0 a1=some r):qf pr (X pr) 127 [.agg [.int .i64 a0.num,.int .i64 a0.den],.agg [.int .i64 a1.num,.int .i64 a1.den]]=some (.bool r,false):=by
 unfold f127 at h
 obtain ⟨v1,h2,h⟩:=qa h
 have wh2:=ji6 h2
 obtain ⟨v3,h4,h⟩:=qa h
 have wh4:=ji6 h4
 rcases qb h with ⟨h5,h⟩ | ⟨h5,h⟩
 ·obtain rfl:=Option.some.inj h
  refine qn (f:=c127) rfl rfl rfl (by first | rfl | simp only [go_sem,seval]) ?_
  simp only [go_sem,seval,c127,wh2,wh4,h5]
  exact ⟨_,rfl⟩
 rcases qb h with ⟨h6,h⟩ | ⟨h6,h⟩
 ·obtain rfl:=Option.some.inj h
  refine qn (f:=c127) rfl rfl rfl (by first | rfl | simp only [go_sem,seval]) ?_
  simp only [go_sem,seval,c127,wh2,wh4,h5,h6]
  exact ⟨_,rfl⟩
 obtain rfl:=Option.some.inj h
 refine qn (f:=c127) rfl rfl rfl (by first | rfl | simp only [go_sem,seval]) ?_
 simp only [go_sem,seval,c127,wh2,wh4,h5,h6]
 exact ⟨_,rfl⟩
noncomputable def qmr (a0:TE) (a1:Int) (s0:Int × Int × Int × Int × Int × Int × Int × Int × Int):Option ((Int × Int × Int × Int × Int × Int × Int × Int × Int) ⊕ ((Int × Int × Int × Int × Int × Int × Int × Int × Int))):=
 cond (decide (s0.1 < ((a0.getD []).length:Int)))
  (qc (js (a0.getD []) s0.1) fun v24=>
  qc (f167 v24 a1) fun v26=>
  qc (f170 v24.kind v26) fun v28=>
  qc (f169 (⟨s0.2.1,s0.2.2.1,s0.2.2.2.1,s0.2.2.2.2.1,s0.2.2.2.2.2.1,s0.2.2.2.2.2.2.1,s0.2.2.2.2.2.2.2.1,s0.2.2.2.2.2.2.2.2⟩) v28) fun v30=>
  some (.inl (qg .i64 (s0.1 + 1),v30.m0,v30.m1,v30.m2,v30.m3,v30.m4,v30.m5,v30.m6,v30.m7)))
  (some (.inr (s0.1,s0.2.1,s0.2.2.1,s0.2.2.2.1,s0.2.2.2.2.1,s0.2.2.2.2.2.1,s0.2.2.2.2.2.2.1,s0.2.2.2.2.2.2.2.1,s0.2.2.2.2.2.2.2.2)))
def qmj (a0:TE) (a1:Int) (s0:Int × Int × Int × Int × Int × Int × Int × Int × Int):ASt:=⟨[(0,sl 3 vel a0,false),(1,.int .i64 a1,false),(4,.ptr 0 0,false),(5,.ptr 1 0,false),(6,.int .i64 s0.1,false)],[.cells [(.int .i64 0,false),(.int .i64 0,false),(.int .i64 0,false),(.int .i64 0,false),(.int .i64 0,false),(.int .i64 0,false),(.int .i64 0,false),(.int .i64 0,false)],.cells [(.int .i64 s0.2.1,false),(.int .i64 s0.2.2.1,false),(.int .i64 s0.2.2.2.1,false),(.int .i64 s0.2.2.2.2.1,false),(.int .i64 s0.2.2.2.2.2.1,false),(.int .i64 s0.2.2.2.2.2.2.1,false),(.int .i64 s0.2.2.2.2.2.2.2.1,false),(.int .i64 s0.2.2.2.2.2.2.2.2,false)]]⟩
def qr0 (a0:TE) (a1:Int) (d:(Int × Int × Int × Int × Int × Int × Int × Int × Int)):jb × ASt:=(.exit 0,⟨[(0,sl 3 vel a0,false),(1,.int .i64 a1,false),(4,.ptr 0 0,false),(5,.ptr 1 0,false),(6,.int .i64 d.1,false),(15,.bool false,false)],[.cells [(.int .i64 0,false),(.int .i64 0,false),(.int .i64 0,false),(.int .i64 0,false),(.int .i64 0,false),(.int .i64 0,false),(.int .i64 0,false),(.int .i64 0,false)],.cells [(.int .i64 d.2.1,false),(.int .i64 d.2.2.1,false),(.int .i64 d.2.2.2.1,false),(.int .i64 d.2.2.2.2.1,false),(.int .i64 d.2.2.2.2.2.1,false),(.int .i64 d.2.2.2.2.2.2.1,false),(.int .i64 d.2.2.2.2.2.2.2.1,false),(.int .i64 d.2.2.2.2.2.2.2.2,false)]]⟩)
theorem jfd (a0:TE) (a1:Int) (s0:Int × Int × Int × Int × Int × Int × Int × Int × Int) (r) (h:qmr a0 a1 s0=some r):jt pr qpl (qmj a0 a1) (qr0 a0 a1) s0 r:=by
 unfold qmr at h
 rcases qb h with ⟨h23,h⟩ | ⟨h23,h⟩
 ·obtain ⟨v24,h25,h⟩:=qa h
  obtain ⟨v26,h27,h⟩:=qa h
  have wh27:=jf3 h27
  obtain ⟨v28,h29,h⟩:=qa h
  have wh29:=jvb h29
  obtain ⟨v30,h31,h⟩:=qa h
  have wh31:=jyb h31
  cases h
  exact qw (by simp only [go_sem,seval,qpl,qmj,h23,qu h25,wh27,wh29,wh31] <;> rfl) (Nat.le_refl _)
 cases h
 exact qh (by simp only [go_sem,seval,qpl,qmj,h23,qr0] <;> rfl)
theorem ji8 (a0:TE) (a1:Int) {s0:Int × Int × Int × Int × Int × Int × Int × Int × Int} {d} (h:itO (qmr a0 a1) s0=some d):X pr (.loop qpl) (qmj a0 a1 s0)=some (qr0 a0 a1 d):=j9 (jfd a0 a1) (fun d hh=>by cases hh) h
noncomputable def f129 (a0:TE) (a1:Int):Option zm:=
 qc (f166) fun v1=>
 qc (f168) fun v3=>
 qc (itO (qmr a0 a1) (0,v1.num,v1.den,v3.num,v3.den,v3.num,v3.den,v1.num,v1.den)) fun d32=>
 some (⟨d32.2.1,d32.2.2.1,d32.2.2.2.1,d32.2.2.2.2.1,d32.2.2.2.2.2.1,d32.2.2.2.2.2.2.1,d32.2.2.2.2.2.2.2.1,d32.2.2.2.2.2.2.2.2⟩)
theorem juu {a0:TE} {a1:Int} {r} (h:f129 a0 a1=some r):qf pr (X pr) 129 [sl 3 vel a0,.int .i64 a1]=some (.agg [.int .i64 r.m0,.int .i64 r.m1,.int .i64 r.m2,.int .i64 r.m3,.int .i64 r.m4,.int .i64 r.m5,.int .i64 r.m6,.int .i64 r.m7],false):=by
 unfold f129 at h
 obtain ⟨v1,h2,h⟩:=qa h
 obtain ⟨v3,h4,h⟩:=qa h
 obtain ⟨d32,h33,h⟩:=qa h
 have wh33:=ji8 a0 a1 h33
 dsimp only [qmj,qr0] at wh33
 obtain rfl:=Option.some.inj h
 refine qn (f:=c129) rfl rfl rfl (by first | rfl | simp only [go_sem,seval]) ?_
 simp only [go_sem,seval,c129,qwd h2,qss h4,wh33]
 exact ⟨_,rfl⟩
noncomputable def qlz (a0:TE) (a1:Int) (s0:Int × Int × Int):Option ((Int × Int × Int) ⊕ ((Int × Int × Int))):=
 cond (decide (s0.1 < ((a0.getD []).length:Int)))
  (qc (js (a0.getD []) s0.1) fun v24=>
  qc (f55 v24.kind) fun v26=>
  cond v26
   (qc (f167 v24 a1) fun v29=>
   qc (f63 (⟨s0.2.1,s0.2.2⟩) v29) fun v31=>
   some (.inl (qg .i64 (s0.1 + 1),v31.num,v31.den)))
   (some (.inl (qg .i64 (s0.1 + 1),s0.2.1,s0.2.2))))
  (some (.inr (s0.1,s0.2.1,s0.2.2)))
def qik (a0:TE) (a1:Int) (s0:Int × Int × Int):ASt:=⟨[(0,sl 3 vel a0,false),(1,.int .i64 a1,false),(4,.ptr 0 0,false),(5,.ptr 1 0,false),(6,.int .i64 s0.1,false)],[.cells [(.int .i64 0,false),(.int .i64 0,false)],.cells [(.int .i64 s0.2.1,false),(.int .i64 s0.2.2,false)]]⟩
def qqv (a0:TE) (a1:Int) (d:(Int × Int × Int)):jb × ASt:=(.exit 0,⟨[(0,sl 3 vel a0,false),(1,.int .i64 a1,false),(4,.ptr 0 0,false),(5,.ptr 1 0,false),(6,.int .i64 d.1,false),(11,.bool false,false)],[.cells [(.int .i64 0,false),(.int .i64 0,false)],.cells [(.int .i64 d.2.1,false),(.int .i64 d.2.2,false)]]⟩)
theorem jgm (a0:TE) (a1:Int) (s0:Int × Int × Int) (r) (h:qlz a0 a1 s0=some r):jt pr qmv (qik a0 a1) (qqv a0 a1) s0 r:=by
 unfold qlz at h
 rcases qb h with ⟨h23,h⟩ | ⟨h23,h⟩
 ·obtain ⟨v24,h25,h⟩:=qa h
  obtain ⟨v26,h27,h⟩:=qa h
  have wh27:=W55 h27
  rcases qb h with ⟨h28,h⟩ | ⟨h28,h⟩
  ·obtain ⟨v29,h30,h⟩:=qa h
   have wh30:=jf3 h30
   obtain ⟨v31,h32,h⟩:=qa h
   have wh32:=W63 h32
   cases h
   exact qw (by simp only [go_sem,seval,qmv,qik,h23,qu h25,wh27,h28,wh30,wh32] <;> rfl) (Nat.le_refl _)
  cases h
  exact qw (by simp only [go_sem,seval,qmv,qik,h23,qu h25,wh27,h28] <;> rfl) (Nat.le_refl _)
 cases h
 exact qh (by simp only [go_sem,seval,qmv,qik,h23,qqv] <;> rfl)
theorem jgh (a0:TE) (a1:Int) {s0:Int × Int × Int} {d} (h:itO (qlz a0 a1) s0=some d):X pr (.loop qmv) (qik a0 a1 s0)=some (qqv a0 a1 d):=j9 (jgm a0 a1) (fun d hh=>by cases hh) h
noncomputable def f128 (a0:TE) (a1:Int):Option qy:=
 qc (f166) fun v1=>
 qc (itO (qlz a0 a1) (0,v1.num,v1.den)) fun d33=>
 some (⟨d33.2.1,d33.2.2⟩)
theorem jws {a0:TE} {a1:Int} {r} (h:f128 a0 a1=some r):qf pr (X pr) 128 [sl 3 vel a0,.int .i64 a1]=some (.agg [.int .i64 r.num,.int .i64 r.den],false):=by
 unfold f128 at h
 obtain ⟨v1,h2,h⟩:=qa h
 obtain ⟨d33,h34,h⟩:=qa h
 have wh34:=jgh a0 a1 h34
 dsimp only [qik,qqv] at wh34
 obtain rfl:=Option.some.inj h
 refine qn (f:=c128) rfl rfl rfl (by first | rfl | simp only [go_sem,seval]) ?_
 simp only [go_sem,seval,c128,qwd h2,wh34]
 exact ⟨_,rfl⟩
noncomputable def F58 (rec:qy→qy→Option Bool) (a0:qy) (a1:qy):Option Bool:=
 qc (qc7 .i64 a0.num a0.den) fun v1=>
 qc (qc7 .i64 a1.num a1.den) fun v3=>
 cond (decide (v1=v3))
  (qc (qjx a0.num a0.den) fun v6=>
  qc (qjx a1.num a1.den) fun v8=>
  cond (decide (v6=0))
   (some (!decide (v8=0)))
   (cond (decide (v8=0))
    (some false)
    (qc (rec (⟨a1.den,v8⟩) (⟨a0.den,v6⟩)) fun v12=>
    some v12)))
  (some (decide (v1 < v3)))
theorem jwg {rec:qy→qy→Option Bool} (hrec:∀ {a0:qy} {a1:qy} {r},rec a0 a1=some r→qf pr (X pr) 58 [.agg [.int .i64 a0.num,.int .i64 a0.den],.agg [.int .i64 a1.num,.int .i64 a1.den]]=some (.bool r,false)) {a0:qy} {a1:qy} {r} (h:F58 rec a0 a1=some r):qf pr (X pr) 58 [.agg [.int .i64 a0.num,.int .i64 a0.den],.agg [.int .i64 a1.num,.int .i64 a1.den]]=some (.bool r,false):=by
 unfold F58 at h
 obtain ⟨v1,h2,h⟩:=qa h
 obtain ⟨v3,h4,h⟩:=qa h
 rcases qb h with ⟨h5,h⟩ | ⟨h5,h⟩
 ·obtain ⟨v6,h7,h⟩:=qa h
  obtain ⟨v8,h9,h⟩:=qa h
  rcases qb h with ⟨h10,h⟩ | ⟨h10,h⟩
  ·obtain rfl:=Option.some.inj h
   refine qn (f:=c58) rfl rfl rfl (by first | rfl | simp only [go_sem,seval]) ?_
   simp only [go_sem,seval,c58,yt h2,yt h4,h5,qcu h7,qcu h9,h10]
   exact ⟨_,rfl⟩
  rcases qb h with ⟨h11,h⟩ | ⟨h11,h⟩
  ·obtain rfl:=Option.some.inj h
   refine qn (f:=c58) rfl rfl rfl (by first | rfl | simp only [go_sem,seval]) ?_
   simp only [go_sem,seval,c58,yt h2,yt h4,h5,qcu h7,qcu h9,h10,h11]
   exact ⟨_,rfl⟩
  obtain ⟨v12,h13,h⟩:=qa h
  have wh13:=hrec h13
  obtain rfl:=Option.some.inj h
  refine qn (f:=c58) rfl rfl rfl (by first | rfl | simp only [go_sem,seval]) ?_
  simp only [go_sem,seval,c58,yt h2,yt h4,h5,qcu h7,qcu h9,h10,h11,wh13]
  exact ⟨_,rfl⟩
 obtain rfl:=Option.some.inj h
 refine qn (f:=c58) rfl rfl rfl (by first | rfl | simp only [go_sem,seval]) ?_
 simp only [go_sem,seval,c58,yt h2,yt h4,h5]
 exact ⟨_,rfl⟩
noncomputable def f58:Nat→qy→qy→Option Bool
 | 0=>fun _ _=>none
 | n + 1=>F58 (f58 n)
theorem W58:∀ (n:Nat) {a0:qy} {a1:qy} {r} (h:f58 n a0 a1=some r),qf pr (X pr) 58 [.agg [.int .i64 a0.num,.int .i64 a0.den],.agg [.int .i64 a1.num,.int .i64 a1.den]]=some (.bool r,false)
 | 0,_,_,_,h=>by cases h
 | n + 1,_,_,_,h=>jwg (W58 n) h
noncomputable def f199 (a0:qy) (a1:qy):Option (qdq × Int):=
 qc (f168) fun v1=>
 cond (decide (a1.num=v1.num) && decide (a1.den=v1.den))
  (some (⟨0,0,0,0⟩,17))
  (some (⟨a0.num,a0.den,a1.num,a1.den⟩,0))
theorem jx5 {a0:qy} {a1:qy} {r} (h:f199 a0 a1=some r):qf pr (X pr) 199 [.agg [.int .i64 a0.num,.int .i64 a0.den],.agg [.int .i64 a1.num,.int .i64 a1.den]]=some (.tup [.agg [.int .i64 r.1.a,.int .i64 r.1.b,.int .i64 r.1.c,.int .i64 r.1.d],.int .i64 r.2],false):=by
 unfold f199 at h
 obtain ⟨v1,h2,h⟩:=qa h
 rcases qb h with ⟨h3,h⟩ | ⟨h3,h⟩
 ·obtain rfl:=Option.some.inj h
  refine qn (f:=c199) rfl rfl rfl (by first | rfl | simp only [go_sem,seval]) ?_
  simp only [go_sem,seval,c199,qss h2,h3]
  exact ⟨_,rfl⟩
 obtain rfl:=Option.some.inj h
 refine qn (f:=c199) rfl rfl rfl (by first | rfl | simp only [go_sem,seval]) ?_
 simp only [go_sem,seval,c199,qss h2,h3]
 exact ⟨_,rfl⟩
noncomputable def f160 (a0:TE) (a1:Int):Option (qdq × Int):=
 qc (f128 a0 a1) fun v1=>
 qc (f129 a0 a1) fun v3=>
 qc (f199 v1 (⟨v3.m0,v3.m1⟩)) fun v5=>
 some (v5.1,v5.2)
theorem jg1 {a0:TE} {a1:Int} {r} (h:f160 a0 a1=some r):qf pr (X pr) 160 [sl 3 vel a0,.int .i64 a1]=some (.tup [.agg [.int .i64 r.1.a,.int .i64 r.1.b,.int .i64 r.1.c,.int .i64 r.1.d],.int .i64 r.2],false):=by
 unfold f160 at h
 obtain ⟨v1,h2,h⟩:=qa h
 obtain ⟨v3,h4,h⟩:=qa h
 obtain ⟨v5,h6,h⟩:=qa h
 have wh6:=jx5 h6
 obtain rfl:=Option.some.inj h
 refine qn (f:=c160) rfl rfl rfl (by first | rfl | simp only [go_sem,seval]) ?_
 simp only [go_sem,seval,c160,jws h2,juu h4,wh6]
 exact ⟨_,rfl⟩
noncomputable def f113 (a0:TE) (a1:Int):Option (qy × Int):=
 qc (f160 a0 a1) fun v1=>
 cond (decide (v1.2=0))
  (qc (f130 (⟨v1.1.a,v1.1.b⟩)) fun v4=>
  qc (f130 (⟨v1.1.c,v1.1.d⟩)) fun v6=>
  qc (f66 v4 v6) fun v8=>
  some (v8,0))
  (some (⟨0,0⟩,v1.2))
theorem jvx {a0:TE} {a1:Int} {r} (h:f113 a0 a1=some r):qf pr (X pr) 113 [sl 3 vel a0,.int .i64 a1]=some (.tup [.agg [.int .i64 r.1.num,.int .i64 r.1.den],.int .i64 r.2],false):=by
 unfold f113 at h
 obtain ⟨v1,h2,h⟩:=qa h
 rcases qb h with ⟨h3,h⟩ | ⟨h3,h⟩
 ·obtain ⟨v4,h5,h⟩:=qa h
  have wh5:=jfc h5
  obtain ⟨v6,h7,h⟩:=qa h
  have wh7:=jfc h7
  obtain ⟨v8,h9,h⟩:=qa h
  obtain rfl:=Option.some.inj h
  refine qn (f:=c113) rfl rfl rfl (by first | rfl | simp only [go_sem,seval]) ?_
  simp only [go_sem,seval,c113,jg1 h2,h3,wh5,wh7,W66 h9]
  exact ⟨_,rfl⟩
 obtain rfl:=Option.some.inj h
 refine qn (f:=c113) rfl rfl rfl (by first | rfl | simp only [go_sem,seval]) ?_
 simp only [go_sem,seval,c113,jg1 h2,h3]
 exact ⟨_,rfl⟩
noncomputable def f34 (a0:Int):Option Int:=
 qc (f40 a0 1 8) fun v1=>
 some v1
theorem W34 {a0:Int} {r} (h:f34 a0=some r):qf pr (X pr) 34 [.int .i64 a0]=some (.int .i64 r,false):=by
 unfold f34 at h
 obtain ⟨v1,h2,h⟩:=qa h
 obtain rfl:=Option.some.inj h
 refine qn (f:=c34) rfl rfl rfl (by first | rfl | simp only [go_sem,seval]) ?_
 simp only [go_sem,seval,c34,W40 h2]
 exact ⟨_,rfl⟩
noncomputable def f32 (a0:TI):Option Int:=
 qc (f100 a0) fun v1=>
 some v1
theorem W32 {a0:TI} {r} (h:f32 a0=some r):qf pr (X pr) 32 [sl 1 qm a0]=some (.int .i64 r,false):=by
 unfold f32 at h
 obtain ⟨v1,h2,h⟩:=qa h
 obtain rfl:=Option.some.inj h
 refine qn (f:=c32) rfl rfl rfl (by first | rfl | simp only [go_sem,seval]) ?_
 simp only [go_sem,seval,c32,qza h2]
 exact ⟨_,rfl⟩
noncomputable def f43 (a0:Int) (a1:Int) (a2:Int) (a3:Int):Option Bool:=
 cond (decide (a2=0))
  (cond (decide (a1=0))
   (some (decide (a0=a3)))
   (some false))
  (cond (decide (a0=0))
   (some (decide (a1=a2)))
   (some false))
theorem W43 {a0:Int} {a1:Int} {a2:Int} {a3:Int} {r} (h:f43 a0 a1 a2 a3=some r):qf pr (X pr) 43 [.int .i64 a0,.int .i64 a1,.int .i64 a2,.int .i64 a3]=some (.bool r,false):=by
 unfold f43 at h
 rcases qb h with ⟨h1,h⟩ | ⟨h1,h⟩
 ·rcases qb h with ⟨h2,h⟩ | ⟨h2,h⟩
  ·obtain rfl:=Option.some.inj h
   refine qn (f:=c43) rfl rfl rfl (by first | rfl | simp only [go_sem,seval]) ?_
   simp only [go_sem,seval,c43,h1,h2]
   exact ⟨_,rfl⟩
  obtain rfl:=Option.some.inj h
  refine qn (f:=c43) rfl rfl rfl (by first | rfl | simp only [go_sem,seval]) ?_
  simp only [go_sem,seval,c43,h1,h2]
  exact ⟨_,rfl⟩
 rcases qb h with ⟨h3,h⟩ | ⟨h3,h⟩
 ·obtain rfl:=Option.some.inj h
  refine qn (f:=c43) rfl rfl rfl (by first | rfl | simp only [go_sem,seval]) ?_
  simp only [go_sem,seval,c43,h1,h3]
  exact ⟨_,rfl⟩
 obtain rfl:=Option.some.inj h
 refine qn (f:=c43) rfl rfl rfl (by first | rfl | simp only [go_sem,seval]) ?_
 simp only [go_sem,seval,c43,h1,h3]
 exact ⟨_,rfl⟩
noncomputable def f198 (a0:TE):Option (TE × Bool):=
 cond a0.isNone
  (some (none,false))
  (qc (apO (some []) (a0.getD [])) fun v2=>
  some (v2,true))
theorem jge {a0:TE} {r} (h:f198 a0=some r):qf pr (X pr) 198 [sl 3 vel a0]=some (sl 3 vel r.1,r.2):=by
 unfold f198 at h
 rcases qb h with ⟨h1,h⟩ | ⟨h1,h⟩
 ·have hr:(none,false)=r:=Option.some.inj h
  subst hr
  have this:∃ hh,jg pr (X pr) 198 [sl 3 vel a0] []=some (.list true 0 [],false,hh):=by
   rw [j8 (show pr.fns 198=some c198 from rfl) (by simp)]
   simp only [go_sem,seval,c198,h1]
   exact ⟨_,rfl⟩
  obtain ⟨hh,this⟩:=this
  exact zk rfl this (by first | rfl | simp only [go_sem,seval]) (by first | rfl | simp only [go_sem,seval]) (by first | rfl | simp only [go_sem,seval])
 obtain ⟨v2,h3,h⟩:=qa h
 have hr:(v2,true)=r:=Option.some.inj h
 subst hr
 have this:∃ hh,jg pr (X pr) 198 [sl 3 vel a0] []=some (sl 3 vel v2,true,hh):=by
  rw [j8 (show pr.fns 198=some c198 from rfl) (by simp)]
  simp only [go_sem,seval,c198,h1,qaz h3]
  exact ⟨_,rfl⟩
 obtain ⟨hh,this⟩:=this
 exact zk rfl this (by first | rfl | simp only [go_sem,seval]) (by first | rfl | simp only [go_sem,seval]) (by first | rfl | simp only [go_sem,seval])
section
variable {H:qk} {b c:ABox} {cs:List (AVal × Bool)} {n:Nat}
theorem qig:newBox H.length (H++[ABox.hole]) 0 b=some (H++[b]):=by
 unfold newBox
 rw [Nat.add_zero,List.getElem?_append_right (Nat.le_refl _),Nat.sub_self]
 show some ((H++[ABox.hole]).set H.length b)=_
 rw [List.set_append_right _ _ (Nat.le_refl _),Nat.sub_self]
 rfl
theorem qif:(H++[b])[H.length]?=some b:=by
 rw [List.getElem?_append_right (Nat.le_refl _),Nat.sub_self]; rfl
theorem qfs:jk (H++[ABox.cells cs]) H.length=some cs:=by
 unfold jk
 rw [List.getElem?_append_right (Nat.le_refl _),Nat.sub_self]
 rfl
theorem jgb {t:qk} (h:jk H n=some cs):jk (H++t) n=some cs:=by
 unfold jk at h ⊢
 have hn:n < H.length:=by
  cases hh:H[n]? with
  | none=>rw [hh] at h; cases h
  | some x=>exact (List.getElem?_eq_some_iff.1 hh).1
 rw [List.getElem?_append_left hn]
 exact h
theorem qir:decide (H.length < (H++[b]).length)=true:=by simp
theorem q79 (h:jk H n=some cs):H[n]?=some (.cells cs):=by
 unfold jk at h
 split at h
 ·next x hx=>cases h; exact hx
 ·cases h
theorem qf5:(H++[b]).set H.length c=H++[c]:=by
 rw [List.set_append_right _ _ (Nat.le_refl _),Nat.sub_self]
 rfl
end
def zf (v:GEl):ABox:=.cells [(.str v.kind,false),(.int .i64 v.a,false),(.int .i64 v.b,false)]
section
variable {S D:Type}
noncomputable def kl {α:Type} (g:S→α→Option (S ⊕ D)):List α→S→Option (S ⊕ D)
 | [],s=>some (.inl s)
 | v::l,s=>qc (g s v) fun r=>match r with
  | .inl s'=>kl g l s'
  | .inr d=>some (.inr d)
variable (y:S→Option (List GEl)→Option (S ⊕ D)) (ch:Option (List Int)) (ps:Option (List ql)) (c:Bool)
noncomputable def vis:Nat→Option (List GEl)→S→Option (S ⊕ D)
 | 0,x,s=>qc (f198 x) fun q=>y s q.1
 | m + 1,x,s=>qc (js (ch.getD []) ((x.getD []).length:Int)) fun i=>qc (js (ps.getD []) i) fun p=>qc (f99 p c) fun vs=>
   cond (decide ((vs.1.getD []).length≤9)) (qc (f198 x) fun q=>cond (q.2 || q.1.isNone) (kl (fun s v=>qc (apO q.1 [v]) fun x'=>vis m x' s) (vs.1.getD []) s) none) none
end
structure Fam (S D:Type) where
 HS:S→qk
 HD:D→qk
 N:Nat
 V:Nat
 b:Nat
 ls:∀ s,(HS s).length=N
 ld:∀ d,(HD d).length=N
 bs:∀ n s,N≤n→ju n (HS s)=true
 bd:∀ n d,N≤n→ju n (HD d)=true
 ch:Option (List Int)
 ps:Option (List ql)
 c:Bool
 hV:∀ s,jk (HS s) V=some [(.fn (.func 197) [] [.vptr (sl 1 qm ch),.vptr (.fn (.yield b) [] []),.vptr (sl 8 qq ps),.vptr (.bool c),.ptr V 0],false)]
section
variable {S D:Type} (F:Fam S D)
def Fam.hr:S ⊕ D→qk
 | .inl s=>F.HS s
 | .inr d=>F.HD d
def isL:S ⊕ D→Bool
 | .inl _=>true
 | .inr _=>false
def Fam.yields (y:S→Option (List GEl)→Option (S ⊕ D)):Prop:=∀ s x (els:List GEl) r,y s x=some r→kr (X pr) F.b [sl 3 vel x] (F.HS s++els.map zf)=some (.bool (isL r),F.hr r++els.map zf)
theorem Fam.ltV (s:S):F.V < F.N:=by
 have h:=F.hV s
 rw [← F.ls s]
 unfold jk at h
 cases hh:(F.HS s)[F.V]? with
 | none=>rw [hh] at h; cases h
 | some x=>exact (List.getElem?_eq_some_iff.1 hh).1
theorem qoz {n:Nat}:∀ els:List GEl,ju n (els.map zf)=true
 | []=>rfl
 | v::l=>by
  show (kh n (zf v) && ju n (l.map zf))=true
  rw [qoz l]; rfl
theorem qcn {n:Nat}:∀ {a b:qk},ju n a=true→ju n b=true→ju n (a++b)=true
 | [],b,_,h2=>h2
 | x::a,b,h1,h2=>by
  simp only [ju,Bool.and_eq_true] at h1
  show (kh n x && ju n (a++b))=true
  rw [h1.1,qcn h1.2 h2]; rfl
theorem Fam.below {els:List GEl} {r:S ⊕ D} {n:Nat} (hn:F.N≤n):ju n (F.hr r++els.map zf)=true:=by
 cases r with
 | inl s=>exact qcn (F.bs n s hn) (qoz els)
 | inr d=>exact qcn (F.bd n d hn) (qoz els)
theorem Fam.len {els:List GEl} {r:S ⊕ D}:(F.hr r++els.map zf).length=F.N + els.length:=by
 rw [List.length_append,List.length_map]
 cases r with
 | inl s=>show (F.HS s).length + _=_; rw [F.ls]
 | inr d=>show (F.HD d).length + _=_; rw [F.ld]
end
theorem jb8 {o28:Bool} {H:qk} {x vs:Option (List GEl)} {v:GEl} {V n:Nat} {i:Int} (hv:js (vs.getD []) i=some v) (hV:V < H.length):
  X pr (.region 1 [⟨some 32,.indexAddr 3 (.tmp 28) (.tmp 30),none,none⟩,⟨some 33,.load true 3 (.tmp 32),none,none⟩,⟨some 9,.alloc 0 [(.str []),(.int .i64 0),(.int .i64 0)],none,none⟩,⟨none,.store 3 (.tmp 9) (.tmp 33),none,none⟩] (some [0,5,9,28,29,30]))
   ⟨[(0,sl 3 vel x,false),(5,.ptr V 0,false),(28,sl 3 vel vs,o28),(29,.int .i64 n,false),(30,.int .i64 i,false)],H⟩=some (.normal,⟨[(0,sl 3 vel x,false),(5,.ptr V 0,false),(9,.ptr H.length 0,false),(28,sl 3 vel vs,o28),(29,.int .i64 n,false),(30,.int .i64 i,false)],H++[zf v]⟩):=by
 simp only [go_sem,seval,qu hv,qig,qfs,qf5,Nat.add_zero,qif,qir]
 rfl
section
variable {S D:Type} (F:Fam S D)
def Fam.args (x:Option (List GEl)):List AVal:=[sl 3 vel x,.vptr (sl 1 qm F.ch),.vptr (.fn (.yield F.b) [] []),.vptr (sl 8 qq F.ps),.vptr (.bool F.c),.ptr F.V 0]
def Fam.visits (f:S→Option (List GEl)→Option (S ⊕ D)):Prop:=∀ s x (els:List GEl) r,f s x=some r→∃ t,jg pr (X pr) 197 (F.args x) (F.HS s++els.map zf)=some (.bool (isL r),false,F.hr r++els.map zf++t)
noncomputable def qvk (f:S→Option (List GEl)→Option (S ⊕ D)) (x vs:Option (List GEl)) (d:Int × S):Option ((Int × S) ⊕ ((Int × S) ⊕ (GEl × D))):=
 cond (decide (d.1 < ((vs.getD []).length:Int))) (qc (js (vs.getD []) d.1) fun v=>qc (f198 x) fun q=>cond (q.2 || q.1.isNone) (qc (apO q.1 [v]) fun x'=>qc (f d.2 x') fun r=>match r with
  | .inl s'=>some (.inl (qg .i64 (d.1 + 1),s'))
  | .inr e=>some (.inr (.inr (v,e)))) none) (some (.inr (.inl d)))
def qhv (x vs:Option (List GEl)) (o28:Bool) (els:List GEl) (d:Int × S):ASt:=⟨[(0,sl 3 vel x,false),(5,.ptr F.V 0,false),(28,sl 3 vel vs,o28),(29,.int .i64 ((vs.getD []).length:Int),false),(30,.int .i64 d.1,false)],F.HS d.2++els.map zf⟩
def qn3 (x vs:Option (List GEl)) (o28:Bool) (els:List GEl):(Int × S) ⊕ (GEl × D)→jb × ASt
 | .inl d=>(.exit 0,⟨[(0,sl 3 vel x,false),(5,.ptr F.V 0,false),(28,sl 3 vel vs,o28),(29,.int .i64 ((vs.getD []).length:Int),false),(30,.int .i64 d.1,false),(31,.bool false,false)],F.HS d.2++els.map zf⟩)
 | .inr d=>(.ret,⟨[(7,.bool false,false)],F.HD d.2++(els++[d.1]).map zf⟩)
theorem jyh {f:S→Option (List GEl)→Option (S ⊕ D)} (hf:F.visits f) {x vs:Option (List GEl)} {o28:Bool} {els:List GEl} (d:Int × S) (r) (h:qvk f x vs d=some r):jt pr qhc (qhv F x vs o28 els) (qn3 F x vs o28 els) d r:=by
 obtain ⟨i,s⟩:=d
 unfold qvk at h
 dsimp only at h
 rcases qb h with ⟨h1,k⟩ | ⟨h1,k⟩
 ·obtain ⟨v,h2,k⟩:=qa k
  obtain ⟨⟨x1,w1⟩,h3,k⟩:=qa k
  rcases qb k with ⟨h4,k⟩ | ⟨h4,k⟩
  ·obtain ⟨x',h5,k⟩:=qa k
   obtain ⟨r1,h6,k⟩:=qa k
   have g3:=jge h3
   have hlt:F.V < (F.HS s++els.map zf).length:=by
    rw [List.length_append,F.ls]; have:=F.ltV s; omega
   have hb:=jb8 (o28:=o28) (x:=x) (n:=(vs.getD []).length) h2 hlt
   have hV:=jgb (t:=els.map zf++[zf v]) (F.hV s)
   rw [← List.append_assoc] at hV
   obtain ⟨t,hc⟩:=hf s x' (els++[v]) r1 h6
   have he:F.HS s++(els++[v]).map zf=F.HS s++els.map zf++[zf v]:=by rw [List.map_append,List.append_assoc]; rfl
   have hlen:(F.HS s++els.map zf++[zf v]).length=F.N + (els++[v]).length:=by rw [← he]; exact F.len (r:=.inl s)
   have hlen2:(F.HS s++els.map zf).length=F.N + els.length:=F.len (r:=.inl s)
   have ha:z6 (F.HS s++els.map zf++[zf v]).length (.bool (isL r1)) (F.hr r1++(els++[v]).map zf++t)=F.hr r1++(els++[v]).map zf:=by
    rw [hlen]
    exact qng F.len rfl (F.below (by omega))
   rw [he] at hc
   have hd:((F.HS s++els.map zf++[zf v])[F.V]?)=some (.cells [(.fn (.func 197) [] [.vptr (sl 1 qm F.ch),.vptr (.fn (.yield F.b) [] []),.vptr (sl 8 qq F.ps),.vptr (.bool F.c),.ptr F.V 0],false)]):=q79 hV
   have hVl:F.V < (F.HS s++els.map zf++[zf v]).length:=by rw [List.length_append]; omega
   generalize hH:F.HS s++els.map zf=H at *
   simp only [zf,Fam.args] at hd hVl hc ha
   have ap:appR 3 32 (H++[.cells [(.str v.kind,false),(.int .i64 v.a,false),(.int .i64 v.b,false)]]) (cond w1 (some 36) none) (some (sl 3 vel x1)) (some (.list false 3 [.agg [.str v.kind,.int .i64 v.a,.int .i64 v.b]]))=some ⟨sl 3 vel x',true,cond w1 (some 36) none,H++[.cells [(.str v.kind,false),(.int .i64 v.a,false),(.int .i64 v.b,false)]]⟩:=by
    cases w1 with
    | true=>rw [cond_true,qbt h5]; rfl
    | false=>rw [cond_false,qoy h5 (by simpa using h4)]; rfl
   cases r1 with
   | inl s'=>
    cases k
    have hs:F.hr (.inl s')=F.HS s':=rfl
    refine qdi (st':=⟨[(0,sl 3 vel x,false),(5,.ptr F.V 0,false),(28,sl 3 vel vs,o28),(29,.int .i64 ((vs.getD []).length:Int),false),(30,.int .i64 (qg .i64 (i + 1)),false)],F.HS s'++(els++[v]).map zf⟩) ?_ ?_
    ·cases w1 with
     | true=>
      simp only [cond_true,isL,hs] at ap hc ha
      simp only [go_sem,seval,qhc,qhv,h1,hH,qu h2,qig,qfs,qf5,Nat.add_zero,qif,qir,hd,hVl,decide_true,g3,ap,hc,ha]
     | false=>
      simp only [cond_false,isL,hs] at ap hc ha
      simp only [go_sem,seval,qhc,qhv,h1,hH,qu h2,qig,qfs,qf5,Nat.add_zero,qif,qir,hd,hVl,decide_true,g3,ap,hc,ha]
    ·have hn:(F.HS s++els.map zf).length=F.N + els.length:=F.len (r:=.inl s)
     have hm:F.HS s'++(els++[v]).map zf=(F.HS s'++els.map zf)++[zf v]:=by rw [List.map_append,List.append_assoc]; rfl
     show gc (F.HS s++els.map zf).length _=qhv F x vs o28 els (qg .i64 (i + 1),s')
     rw [hn,hm]
     refine qrm (h:=F.HS s'++els.map zf) (h':=[zf v]) (F.len (r:=.inl s')).symm rfl ?_ (F.below (r:=.inl s') (by omega))
     have b1:Abs.below (F.N + els.length) (sl 3 vel x)=true:=by simp only [go_sem,seval]
     have b2:Abs.below (F.N + els.length) (sl 3 vel vs)=true:=by simp only [go_sem,seval]
     have b3:Abs.below (F.N + els.length) (.ptr F.V 0)=true:=by
      show Nat.blt F.V _=true
      have:=F.ltV s
      exact Nat.ble_eq_true_of_le (by omega)
     show (Abs.below _ (sl 3 vel x) && (Abs.below _ (.ptr F.V 0) && (Abs.below _ (sl 3 vel vs) && (true && (true && true)))))=true
     rw [b1,b2,b3]; rfl
   | inr e=>
    cases k
    have hs:F.hr (.inr e)=F.HD e:=rfl
    refine qh ?_
    cases w1 with
    | true=>
     simp only [cond_true,isL,hs] at ap hc ha
     simp only [go_sem,seval,qhc,qhv,h1,hH,qu h2,qig,qfs,qf5,Nat.add_zero,qif,qir,hd,hVl,decide_true,g3,ap,hc,ha,qn3]
    | false=>
     simp only [cond_false,isL,hs] at ap hc ha
     simp only [go_sem,seval,qhc,qhv,h1,hH,qu h2,qig,qfs,qf5,Nat.add_zero,qif,qir,hd,hVl,decide_true,g3,ap,hc,ha,qn3]
  ·cases k
 ·cases k
  exact qh (by simp only [go_sem,seval,qhc,qhv,h1,qn3] <;> rfl)
theorem jbe {f:S→Option (List GEl)→Option (S ⊕ D)} {x vs:Option (List GEl)} {q:Option (List GEl) × Bool} (hx:f198 x=some q) (ho:(q.2 || q.1.isNone)=true) (hl:(vs.getD []).length≤9):∀ {k i:Nat} {s:S} {r},(vs.getD []).length=i + k→kl (fun s v=>qc (apO q.1 [v]) fun x'=>f s x') ((vs.getD []).drop i) s=some r →
  ∃ d,itO (qvk f x vs) ((i:Int),s)=some d∧(match r,d with | .inl s',.inl d'=>d'.2=s' | .inr e,.inr d'=>d'.2=e | _,_=>False)
 | 0,i,s,r,hk,h=>by
  rw [List.drop_eq_nil_of_le (by omega)] at h
  cases h
  refine ⟨.inl ((i:Int),s),zy ?_,rfl⟩
  unfold qvk
  dsimp only
  rw [decide_eq_false (show ¬ (i:Int) < ((vs.getD []).length:Int) by omega)]; rfl
 | k + 1,i,s,r,hk,h=>by
  have hi:i < (vs.getD []).length:=by omega
  have hv:(vs.getD [])[i]?=some (vs.getD [])[i]:=List.getElem?_eq_getElem hi
  rw [zr hv] at h
  simp only [kl] at h
  obtain ⟨r1,h1,h2⟩:=qa h
  have e:qvk f x vs ((i:Int),s)=some (Sum.elim (fun s'=>.inl (((i + 1:Nat):Int),s')) (fun e=>.inr (.inr ((vs.getD [])[i],e))) r1):=by
   obtain ⟨x',h3,h4⟩:=qa h1
   unfold qvk
   dsimp only
   rw [decide_eq_true (show (i:Int) < ((vs.getD []).length:Int) by omega),cond_true,qei,hv,qd,hx,qd,ho,cond_true,h3,qd,h4,qd,jy (x:=(i:Int) + 1) (by omega) (by omega)]
   cases r1 <;> rfl
  cases r1 with
  | inl s'=>
   obtain ⟨d,g1,g2⟩:=jbe hx ho hl (k:=k) (i:=i + 1) (by omega) h2
   exact ⟨d,by rw [qab e]; exact g1,g2⟩
  | inr e'=>
   cases h2
   exact ⟨_,zy e,rfl⟩
theorem qtv {α:Type} {g g':S→α→Option (S ⊕ D)} (hg:∀ s v r,g s v=some r→g' s v=some r):∀ {l:List α} {s:S} {r},kl g l s=some r→kl g' l s=some r
 | [],s,r,h=>h
 | v::l,s,r,h=>by
  simp only [kl] at h ⊢
  obtain ⟨r1,h1,h2⟩:=qa h
  rw [hg _ _ _ h1,qd]
  cases r1 with
  | inl s'=>exact qtv hg h2
  | inr e=>exact h2
theorem q2l {α:Type} {o v:Option (List α)} {ys:List α} (h:apO o ys=some v):v.getD []=o.getD []++ys:=by
 unfold apO at h
 split at h
 ·cases h
  cases o <;> cases ys <;> simp [apS]
 ·cases h
theorem qsp {h0 b:Nat} {al:Option (List Nat)} {h:qk}:qa2 h0 al false 1 h (some (.vptr (.fn (.yield b) [] [])))=some ⟨.fn (.yield b) [] [],false,none,h⟩:=rfl
theorem q9e {x:Option (List GEl)} {q} (h:f198 x=some q):q.1.getD []=x.getD []:=by
 unfold f198 at h
 cases x with
 | none=>cases h; rfl
 | some l=>
  obtain ⟨v,h1,h2⟩:=qa h
  cases h2
  have:=q2l h1
  simpa using this
theorem qzx {y:S→Option (List GEl)→Option (S ⊕ D)} (hy:F.yields y):∀ m,F.visits fun s x=>cond (decide ((F.ch.getD []).length=(x.getD []).length + m)) (vis y F.ch F.ps F.c m x s) none
 | 0,s,x,els,r,h=>by
  rcases qb h with ⟨h1,k⟩ | ⟨h1,k⟩
  ·have h1:(F.ch.getD []).length=(x.getD []).length:=by simpa using h1
   unfold vis at k
   obtain ⟨q,h2,k⟩:=qa k
   have g2:=jge h2
   have g3:=hy s q.1 els r k
   have hd:decide (((x.getD []).length:Int)=((F.ch.getD []).length:Int))=true:=decide_eq_true (by omega)
   unfold Fam.args
   rw [j8 (show pr.fns 197=some c197 from rfl) (by simp)]
   refine ⟨[],?_⟩
   rw [List.append_nil]
   simp only [go_sem,seval,c197,hd,qsp,g2,g3]
  ·cases k
 | m + 1,s,x,els,r,h=>by
  rcases qb h with ⟨h1,k⟩ | ⟨h1,k⟩
  ·have h1:(F.ch.getD []).length=(x.getD []).length + (m + 1):=by simpa using h1
   unfold vis at k
   obtain ⟨i,h2,k⟩:=qa k
   obtain ⟨p,h3,k⟩:=qa k
   obtain ⟨vs,h4,k⟩:=qa k
   rcases qb k with ⟨h5,k⟩ | ⟨h5,k⟩
   ·obtain ⟨q,h6,k⟩:=qa k
    rcases qb k with ⟨h7,k⟩ | ⟨h7,k⟩
    ·have ih:=qzx hy m
     have hd:decide (((x.getD []).length:Int)=((F.ch.getD []).length:Int))=false:=decide_eq_false (by omega)
     have k':kl (fun s v=>qc (apO q.1 [v]) fun x'=>(fun s x=>cond (decide ((F.ch.getD []).length=(x.getD []).length + m)) (vis y F.ch F.ps F.c m x s) none) s x') (vs.1.getD []) s=some r:=qtv (fun s v r hr=>by
      obtain ⟨x',j1,j2⟩:=qa hr
      have hl:(x'.getD []).length=(x.getD []).length + 1:=by rw [q2l j1,q9e h6,List.length_append]; rfl
      rw [j1,qd]
      dsimp only
      rw [decide_eq_true (by omega),cond_true]
      exact j2) k
     obtain ⟨d,g1,g2⟩:=jbe h6 h7 (by simpa using h5) (k:=(vs.1.getD []).length) (i:=0) (by omega) (by rw [List.drop_zero]; exact k')
     have hlo:X pr (.loop qhc) (qhv F x vs.1 vs.2 els (((0:Nat):Int),s))=some (qn3 F x vs.1 vs.2 els d):=j9 (jyh F ih) (fun d=>by cases d <;> (intro hh; cases hh)) g1
     have g99:=W99 h4
     unfold Fam.args
     rw [j8 (show pr.fns 197=some c197 from rfl) (by simp)]
     simp only [qhv,show ((0:Nat):Int)=0 from rfl] at hlo
     cases r with
     | inl s'=>
      cases d with
      | inl d'=>
       obtain rfl:d'.2=s':=g2
       refine ⟨[],?_⟩
       rw [List.append_nil]
       simp only [qn3] at hlo
       simp only [go_sem,seval,c197,hd,qsp,qu h2,qu h3,g99,hlo]
       rfl
      | inr d'=>exact g2.elim
     | inr e=>
      cases d with
      | inl d'=>exact g2.elim
      | inr d'=>
       obtain rfl:d'.2=e:=g2
       refine ⟨[zf d'.1],?_⟩
       simp only [qn3] at hlo
       have hm:F.HD d'.2++(els++[d'.1]).map zf=F.HD d'.2++els.map zf++[zf d'.1]:=by rw [List.map_append,List.append_assoc]; rfl
       rw [hm] at hlo
       simp only [go_sem,seval,c197,hd,qsp,qu h2,qu h3,g99,hlo]
       rfl
    ·cases k
   ·cases k
  ·cases k
end
section
variable {S D:Type}
structure Base (S D:Type) where
 R:S→qk
 RD:D→qk
 n:Nat
 b:Nat
 ls:∀ s,(R s).length=n
 ld:∀ d,(RD d).length=n
 bs:∀ k s,n≤k→ju k (R s)=true
 bd:∀ k d,n≤k→ju k (RD d)=true
 hb:b < n
 ch:Option (List Int)
 ps:Option (List ql)
 c:Bool
def qfb (B:Base S D):ABox:=.cells [(.fn (.func 197) [] [.vptr (sl 1 qm B.ch),.vptr (.fn (.yield B.b) [] []),.vptr (sl 8 qq B.ps),.vptr (.bool B.c),.ptr B.n 0],false)]
theorem qty (B:Base S D) {k:Nat} (h:B.n + 1≤k):kh k (qfb B)=true:=by
 have h1:Abs.below k (sl 1 qm B.ch)=true:=by simp only [go_sem,seval]
 have h2:Abs.below k (sl 8 qq B.ps)=true:=by simp only [go_sem,seval]
 have h3:Nat.blt B.b k=true:=Nat.ble_eq_true_of_le (by have:=B.hb; omega)
 have h4:Nat.blt B.n k=true:=Nat.ble_eq_true_of_le (by omega)
 show ((true && (Abs.below k (sl 1 qm B.ch) && ((Nat.blt B.b k && true && true) && (Abs.below k (sl 8 qq B.ps) && (true && (Nat.blt B.n k && true)))))) && true)=true
 rw [h1,h2,h3,h4]; rfl
def Base.fam (B:Base S D):Fam S D where
 HS s:=B.R s++[qfb B]
 HD d:=B.RD d++[qfb B]
 N:=B.n + 1
 V:=B.n
 b:=B.b
 ls s:=by rw [List.length_append,B.ls]; rfl
 ld d:=by rw [List.length_append,B.ld]; rfl
 bs n s h:=qcn (B.bs n s (by omega)) (by show (kh n (qfb B) && true)=true; rw [qty B h]; rfl)
 bd n d h:=qcn (B.bd n d (by omega)) (by show (kh n (qfb B) && true)=true; rw [qty B h]; rfl)
 ch:=B.ch
 ps:=B.ps
 c:=B.c
 hV s:=by
  have h:jk (B.R s++[qfb B]) (B.R s).length=some _:=qfs
  rw [B.ls] at h
  exact h
theorem jha (B:Base S D) {y:S→Option (List GEl)→Option (S ⊕ D)} (hy:B.fam.yields y) {s:S} {r} (h:vis y B.ch B.ps B.c (B.ch.getD []).length none s=some r):
  jg pr (X pr) 196 [.fn (.yield B.b) [] [],.vptr (sl 1 qm B.ch),.vptr (sl 8 qq B.ps),.vptr (.bool B.c)] (B.R s)=some (.tup [],false,B.fam.hr r):=by
 obtain ⟨t,hc⟩:=qzx B.fam hy (B.ch.getD []).length s none [] r (by
  show cond (decide ((B.ch.getD []).length=0 + (B.ch.getD []).length)) (vis y B.ch B.ps B.c (B.ch.getD []).length none s) none=some r
  rw [decide_eq_true (Nat.zero_add _).symm,cond_true]
  exact h)
 have e1:B.fam.HS s++([]:List GEl).map zf=B.R s++[qfb B]:=by rw [List.map_nil,List.append_nil]; rfl
 have e2:B.fam.hr r++([]:List GEl).map zf++t=B.fam.hr r++t:=by rw [List.map_nil,List.append_nil]
 rw [e1,e2] at hc
 have hl:(B.R s++[qfb B]).length=B.n + 1:=by rw [List.length_append,B.ls]; rfl
 have ha:z6 (B.R s++[qfb B]).length (.bool (isL r)) (B.fam.hr r++t)=B.fam.hr r:=by
  rw [hl]
  refine qng ?_ rfl ?_
  ·have:=B.fam.len (els:=[]) (r:=r)
   rw [List.map_nil,List.append_nil] at this
   exact this
  ·have:=B.fam.below (els:=[]) (r:=r) (n:=B.n + 1) (Nat.le_refl _)
   rw [List.map_nil,List.append_nil] at this
   exact this
 have hn:=B.ls s
 have ea:B.fam.args none=[.list true 0 [],.vptr (sl 1 qm B.ch),.vptr (.fn (.yield B.b) [] []),.vptr (sl 8 qq B.ps),.vptr (.bool B.c),.ptr (B.R s).length 0]:=by rw [hn]; rfl
 rw [ea] at hc
 have ev:qfb B=.cells [(.fn (.func 197) [] [.vptr (sl 1 qm B.ch),.vptr (.fn (.yield B.b) [] []),.vptr (sl 8 qq B.ps),.vptr (.bool B.c),.ptr (B.R s).length 0],false)]:=by unfold qfb; rw [hn]
 rw [ev] at hc ha
 generalize B.R s=H at *
 rw [j8 (show pr.fns 196=some c196 from rfl) (by simp)]
 simp only [go_sem,seval,c196,qig,qfs,qf5,Nat.add_zero,qif,qir,decide_true,hc,ha]
end
end Go.Z
