/-
  Chapter 4: complex integers, ratios, chain matrices: functions that mirror the runs, and the runs (printed by walk.py).
-/
import Derived.Test.YtnjngdcbkkonnaaGreatDoorA1
set_option linter.unusedVariables false
set_option linter.unusedSimpArgs false
set_option maxRecDepth 100000
set_option maxHeartbeats 4000000
namespace Go.Z
open Go Go.Abs
noncomputable def f123 (a0:GRat) (a1:GRat):Option GRat:=
 some (⟨wrapF .i64 (a0.num + a1.num),wrapF .i64 (a0.den + a1.den)⟩)
theorem W123 {a0:GRat} {a1:GRat} {r} (h:f123 a0 a1=some r):callIso pr (X pr) 123 [.agg [.int .i64 a0.num,.int .i64 a0.den],.agg [.int .i64 a1.num,.int .i64 a1.den]]=some (.agg [.int .i64 r.num,.int .i64 r.den],false):=by
 unfold f123 at h
 have hr:⟨wrapF .i64 (a0.num + a1.num),wrapF .i64 (a0.den + a1.den)⟩=r:=Option.some.inj h
 subst hr
 refine iso_F rfl ?_ (fun _=>by first | rfl | simp only [go_sem,seval]) (by first | rfl | simp only [go_sem,seval])
 rw [callFn_at (show pr.fns 123=some c123 from rfl) (by simp)]
 simp only [go_sem,seval,c123]
 exact ⟨_,rfl⟩
noncomputable def f124 (a0:GRat) (a1:GRat):Option GRat:=
 some (⟨wrapF .i64 ((wrapF .i64 (a0.num * a1.num)) - (wrapF .i64 (a0.den * a1.den))),wrapF .i64 ((wrapF .i64 (a0.num * a1.den)) + (wrapF .i64 (a0.den * a1.num)))⟩)
theorem W124 {a0:GRat} {a1:GRat} {r} (h:f124 a0 a1=some r):callIso pr (X pr) 124 [.agg [.int .i64 a0.num,.int .i64 a0.den],.agg [.int .i64 a1.num,.int .i64 a1.den]]=some (.agg [.int .i64 r.num,.int .i64 r.den],false):=by
 unfold f124 at h
 have hr:⟨wrapF .i64 ((wrapF .i64 (a0.num * a1.num)) - (wrapF .i64 (a0.den * a1.den))),wrapF .i64 ((wrapF .i64 (a0.num * a1.den)) + (wrapF .i64 (a0.den * a1.num)))⟩=r:=Option.some.inj h
 subst hr
 refine iso_F rfl ?_ (fun _=>by first | rfl | simp only [go_sem,seval]) (by first | rfl | simp only [go_sem,seval])
 rw [callFn_at (show pr.fns 124=some c124 from rfl) (by simp)]
 simp only [go_sem,seval,c124]
 exact ⟨_,rfl⟩
noncomputable def f126 (a0:GRat):Option Int:=
 some (wrapF .i64 ((wrapF .i64 (a0.num * a0.num)) + (wrapF .i64 (a0.den * a0.den))))
theorem W126 {a0:GRat} {r} (h:f126 a0=some r):callIso pr (X pr) 126 [.agg [.int .i64 a0.num,.int .i64 a0.den]]=some (.int .i64 r,false):=by
 unfold f126 at h
 have hr:wrapF .i64 ((wrapF .i64 (a0.num * a0.num)) + (wrapF .i64 (a0.den * a0.den)))=r:=Option.some.inj h
 subst hr
 refine iso_F rfl ?_ (fun _=>by first | rfl | simp only [go_sem,seval]) (by first | rfl | simp only [go_sem,seval])
 rw [callFn_at (show pr.fns 126=some c126 from rfl) (by simp)]
 simp only [go_sem,seval,c126]
 exact ⟨_,rfl⟩
noncomputable def f175 (a0:GRat):Option Int:=
 some (wrapF .i64 ((wrapF .i64 (a0.num * a0.num)) + (wrapF .i64 (a0.den * a0.den))))
theorem W175 {a0:GRat} {r} (h:f175 a0=some r):callIso pr (X pr) 175 [.agg [.int .i64 a0.num,.int .i64 a0.den]]=some (.int .i64 r,false):=by
 unfold f175 at h
 have hr:wrapF .i64 ((wrapF .i64 (a0.num * a0.num)) + (wrapF .i64 (a0.den * a0.den)))=r:=Option.some.inj h
 subst hr
 refine iso_F rfl ?_ (fun _=>by first | rfl | simp only [go_sem,seval]) (by first | rfl | simp only [go_sem,seval])
 rw [callFn_at (show pr.fns 175=some c175 from rfl) (by simp)]
 simp only [go_sem,seval,c175]
 exact ⟨_,rfl⟩
noncomputable def f207 (a0:GRat) (a1:GRat):Option GRat:=
 some (⟨wrapF .i64 ((wrapF .i64 (a0.num * a1.num)) - (wrapF .i64 (a0.den * a1.den))),wrapF .i64 ((wrapF .i64 (a0.num * a1.den)) + (wrapF .i64 (a0.den * a1.num)))⟩)
theorem W207 {a0:GRat} {a1:GRat} {r} (h:f207 a0 a1=some r):callIso pr (X pr) 207 [.agg [.int .i64 a0.num,.int .i64 a0.den],.agg [.int .i64 a1.num,.int .i64 a1.den]]=some (.agg [.int .i64 r.num,.int .i64 r.den],false):=by
 unfold f207 at h
 have hr:⟨wrapF .i64 ((wrapF .i64 (a0.num * a1.num)) - (wrapF .i64 (a0.den * a1.den))),wrapF .i64 ((wrapF .i64 (a0.num * a1.den)) + (wrapF .i64 (a0.den * a1.num)))⟩=r:=Option.some.inj h
 subst hr
 refine iso_F rfl ?_ (fun _=>by first | rfl | simp only [go_sem,seval]) (by first | rfl | simp only [go_sem,seval])
 rw [callFn_at (show pr.fns 207=some c207 from rfl) (by simp)]
 simp only [go_sem,seval,c207]
 exact ⟨_,rfl⟩
noncomputable def f234 (a0:GRat) (a1:GRat):Option GRat:=
 some (⟨wrapF .i64 (a0.num + a1.num),wrapF .i64 (a0.den + a1.den)⟩)
theorem W234 {a0:GRat} {a1:GRat} {r} (h:f234 a0 a1=some r):callIso pr (X pr) 234 [.agg [.int .i64 a0.num,.int .i64 a0.den],.agg [.int .i64 a1.num,.int .i64 a1.den]]=some (.agg [.int .i64 r.num,.int .i64 r.den],false):=by
 unfold f234 at h
 have hr:⟨wrapF .i64 (a0.num + a1.num),wrapF .i64 (a0.den + a1.den)⟩=r:=Option.some.inj h
 subst hr
 refine iso_F rfl ?_ (fun _=>by first | rfl | simp only [go_sem,seval]) (by first | rfl | simp only [go_sem,seval])
 rw [callFn_at (show pr.fns 234=some c234 from rfl) (by simp)]
 simp only [go_sem,seval,c234]
 exact ⟨_,rfl⟩
noncomputable def f206 (a0:GMat) (a1:GMat):Option GMat:=
 obind (f207 (⟨a0.m0,a0.m1⟩) (⟨a1.m0,a1.m1⟩)) fun v1=>
 obind (f207 (⟨a0.m2,a0.m3⟩) (⟨a1.m4,a1.m5⟩)) fun v3=>
 obind (f234 v1 v3) fun v5=>
 obind (f207 (⟨a0.m0,a0.m1⟩) (⟨a1.m2,a1.m3⟩)) fun v7=>
 obind (f207 (⟨a0.m2,a0.m3⟩) (⟨a1.m6,a1.m7⟩)) fun v9=>
 obind (f234 v7 v9) fun v11=>
 obind (f207 (⟨a0.m4,a0.m5⟩) (⟨a1.m0,a1.m1⟩)) fun v13=>
 obind (f207 (⟨a0.m6,a0.m7⟩) (⟨a1.m4,a1.m5⟩)) fun v15=>
 obind (f234 v13 v15) fun v17=>
 obind (f207 (⟨a0.m4,a0.m5⟩) (⟨a1.m2,a1.m3⟩)) fun v19=>
 obind (f207 (⟨a0.m6,a0.m7⟩) (⟨a1.m6,a1.m7⟩)) fun v21=>
 obind (f234 v19 v21) fun v23=>
 some (⟨v5.num,v5.den,v11.num,v11.den,v17.num,v17.den,v23.num,v23.den⟩)
theorem W206 {a0:GMat} {a1:GMat} {r} (h:f206 a0 a1=some r):callIso pr (X pr) 206 [.agg [.int .i64 a0.m0,.int .i64 a0.m1,.int .i64 a0.m2,.int .i64 a0.m3,.int .i64 a0.m4,.int .i64 a0.m5,.int .i64 a0.m6,.int .i64 a0.m7],.agg [.int .i64 a1.m0,.int .i64 a1.m1,.int .i64 a1.m2,.int .i64 a1.m3,.int .i64 a1.m4,.int .i64 a1.m5,.int .i64 a1.m6,.int .i64 a1.m7]]=some (.agg [.int .i64 r.m0,.int .i64 r.m1,.int .i64 r.m2,.int .i64 r.m3,.int .i64 r.m4,.int .i64 r.m5,.int .i64 r.m6,.int .i64 r.m7],false):=by
 unfold f206 at h
 obtain ⟨v1,h2,h⟩:=obind_some h
 have wh2:callIso pr (X pr) 207 [.agg [.int .i64 a0.m0,.int .i64 a0.m1],.agg [.int .i64 a1.m0,.int .i64 a1.m1]]=some (.agg [.int .i64 v1.num,.int .i64 v1.den],false):=W207 h2
 obtain ⟨v3,h4,h⟩:=obind_some h
 have wh4:callIso pr (X pr) 207 [.agg [.int .i64 a0.m2,.int .i64 a0.m3],.agg [.int .i64 a1.m4,.int .i64 a1.m5]]=some (.agg [.int .i64 v3.num,.int .i64 v3.den],false):=W207 h4
 obtain ⟨v5,h6,h⟩:=obind_some h
 have wh6:callIso pr (X pr) 234 [.agg [.int .i64 v1.num,.int .i64 v1.den],.agg [.int .i64 v3.num,.int .i64 v3.den]]=some (.agg [.int .i64 v5.num,.int .i64 v5.den],false):=W234 h6
 obtain ⟨v7,h8,h⟩:=obind_some h
 have wh8:callIso pr (X pr) 207 [.agg [.int .i64 a0.m0,.int .i64 a0.m1],.agg [.int .i64 a1.m2,.int .i64 a1.m3]]=some (.agg [.int .i64 v7.num,.int .i64 v7.den],false):=W207 h8
 obtain ⟨v9,h10,h⟩:=obind_some h
 have wh10:callIso pr (X pr) 207 [.agg [.int .i64 a0.m2,.int .i64 a0.m3],.agg [.int .i64 a1.m6,.int .i64 a1.m7]]=some (.agg [.int .i64 v9.num,.int .i64 v9.den],false):=W207 h10
 obtain ⟨v11,h12,h⟩:=obind_some h
 have wh12:callIso pr (X pr) 234 [.agg [.int .i64 v7.num,.int .i64 v7.den],.agg [.int .i64 v9.num,.int .i64 v9.den]]=some (.agg [.int .i64 v11.num,.int .i64 v11.den],false):=W234 h12
 obtain ⟨v13,h14,h⟩:=obind_some h
 have wh14:callIso pr (X pr) 207 [.agg [.int .i64 a0.m4,.int .i64 a0.m5],.agg [.int .i64 a1.m0,.int .i64 a1.m1]]=some (.agg [.int .i64 v13.num,.int .i64 v13.den],false):=W207 h14
 obtain ⟨v15,h16,h⟩:=obind_some h
 have wh16:callIso pr (X pr) 207 [.agg [.int .i64 a0.m6,.int .i64 a0.m7],.agg [.int .i64 a1.m4,.int .i64 a1.m5]]=some (.agg [.int .i64 v15.num,.int .i64 v15.den],false):=W207 h16
 obtain ⟨v17,h18,h⟩:=obind_some h
 have wh18:callIso pr (X pr) 234 [.agg [.int .i64 v13.num,.int .i64 v13.den],.agg [.int .i64 v15.num,.int .i64 v15.den]]=some (.agg [.int .i64 v17.num,.int .i64 v17.den],false):=W234 h18
 obtain ⟨v19,h20,h⟩:=obind_some h
 have wh20:callIso pr (X pr) 207 [.agg [.int .i64 a0.m4,.int .i64 a0.m5],.agg [.int .i64 a1.m2,.int .i64 a1.m3]]=some (.agg [.int .i64 v19.num,.int .i64 v19.den],false):=W207 h20
 obtain ⟨v21,h22,h⟩:=obind_some h
 have wh22:callIso pr (X pr) 207 [.agg [.int .i64 a0.m6,.int .i64 a0.m7],.agg [.int .i64 a1.m6,.int .i64 a1.m7]]=some (.agg [.int .i64 v21.num,.int .i64 v21.den],false):=W207 h22
 obtain ⟨v23,h24,h⟩:=obind_some h
 have wh24:callIso pr (X pr) 234 [.agg [.int .i64 v19.num,.int .i64 v19.den],.agg [.int .i64 v21.num,.int .i64 v21.den]]=some (.agg [.int .i64 v23.num,.int .i64 v23.den],false):=W234 h24
 have hr:⟨v5.num,v5.den,v11.num,v11.den,v17.num,v17.den,v23.num,v23.den⟩=r:=Option.some.inj h
 subst hr
 refine iso_F rfl ?_ (fun _=>by first | rfl | simp only [go_sem,seval]) (by first | rfl | simp only [go_sem,seval])
 rw [callFn_at (show pr.fns 206=some c206 from rfl) (by simp)]
 simp only [go_sem,seval,c206,wh2,wh4,wh6,wh8,wh10,wh12,wh14,wh16,wh18,wh20,wh22,wh24]
 exact ⟨_,rfl⟩
noncomputable def f218 (a0:GRat):Option GMat:=
 some (⟨a0.num,a0.den,1,0,0,0,a0.num,a0.den⟩)
theorem W218 {a0:GRat} {r} (h:f218 a0=some r):callIso pr (X pr) 218 [.agg [.int .i64 a0.num,.int .i64 a0.den]]=some (.agg [.int .i64 r.m0,.int .i64 r.m1,.int .i64 r.m2,.int .i64 r.m3,.int .i64 r.m4,.int .i64 r.m5,.int .i64 r.m6,.int .i64 r.m7],false):=by
 unfold f218 at h
 have hr:⟨a0.num,a0.den,1,0,0,0,a0.num,a0.den⟩=r:=Option.some.inj h
 subst hr
 refine iso_F rfl ?_ (fun _=>by first | rfl | simp only [go_sem,seval]) (by first | rfl | simp only [go_sem,seval])
 rw [callFn_at (show pr.fns 218=some c218 from rfl) (by simp)]
 simp only [go_sem,seval,c218]
 exact ⟨_,rfl⟩
noncomputable def f219 (a0:GRat):Option GMat:=
 some (⟨1,0,a0.num,a0.den,0,0,1,0⟩)
theorem W219 {a0:GRat} {r} (h:f219 a0=some r):callIso pr (X pr) 219 [.agg [.int .i64 a0.num,.int .i64 a0.den]]=some (.agg [.int .i64 r.m0,.int .i64 r.m1,.int .i64 r.m2,.int .i64 r.m3,.int .i64 r.m4,.int .i64 r.m5,.int .i64 r.m6,.int .i64 r.m7],false):=by
 unfold f219 at h
 have hr:⟨1,0,a0.num,a0.den,0,0,1,0⟩=r:=Option.some.inj h
 subst hr
 refine iso_F rfl ?_ (fun _=>by first | rfl | simp only [go_sem,seval]) (by first | rfl | simp only [go_sem,seval])
 rw [callFn_at (show pr.fns 219=some c219 from rfl) (by simp)]
 simp only [go_sem,seval,c219]
 exact ⟨_,rfl⟩
noncomputable def f220 (a0:GRat):Option GMat:=
 some (⟨1,0,0,0,a0.num,a0.den,1,0⟩)
theorem W220 {a0:GRat} {r} (h:f220 a0=some r):callIso pr (X pr) 220 [.agg [.int .i64 a0.num,.int .i64 a0.den]]=some (.agg [.int .i64 r.m0,.int .i64 r.m1,.int .i64 r.m2,.int .i64 r.m3,.int .i64 r.m4,.int .i64 r.m5,.int .i64 r.m6,.int .i64 r.m7],false):=by
 unfold f220 at h
 have hr:⟨1,0,0,0,a0.num,a0.den,1,0⟩=r:=Option.some.inj h
 subst hr
 refine iso_F rfl ?_ (fun _=>by first | rfl | simp only [go_sem,seval]) (by first | rfl | simp only [go_sem,seval])
 rw [callFn_at (show pr.fns 220=some c220 from rfl) (by simp)]
 simp only [go_sem,seval,c220]
 exact ⟨_,rfl⟩
noncomputable def f221 (a0:GRat):Option GMat:=
 some (⟨a0.num,a0.den,0,0,1,0,a0.num,a0.den⟩)
theorem W221 {a0:GRat} {r} (h:f221 a0=some r):callIso pr (X pr) 221 [.agg [.int .i64 a0.num,.int .i64 a0.den]]=some (.agg [.int .i64 r.m0,.int .i64 r.m1,.int .i64 r.m2,.int .i64 r.m3,.int .i64 r.m4,.int .i64 r.m5,.int .i64 r.m6,.int .i64 r.m7],false):=by
 unfold f221 at h
 have hr:⟨a0.num,a0.den,0,0,1,0,a0.num,a0.den⟩=r:=Option.some.inj h
 subst hr
 refine iso_F rfl ?_ (fun _=>by first | rfl | simp only [go_sem,seval]) (by first | rfl | simp only [go_sem,seval])
 rw [callFn_at (show pr.fns 221=some c221 from rfl) (by simp)]
 simp only [go_sem,seval,c221]
 exact ⟨_,rfl⟩
noncomputable def s125_0 (a0:Int) (a1:Int) (s0:Int × Int):Option ((Int × Int) ⊕ ((Int × Int))):=
 cond (decide (s0.2=0))
  (some (.inr (s0.1,s0.2)))
  (obind (remO s0.1 s0.2) fun v8=>
  some (.inl (s0.2,v8)))
def St125_0 (a0:Int) (a1:Int) (s0:Int × Int):ASt:=⟨[(0,.int .i64 a0,false),(1,.int .i64 a1,false),(4,.ptr 0 0,false),(5,.int .i64 s0.1,false),(6,.int .i64 s0.2,false)],[.cells [(.int .i64 0,false),(.int .i64 0,false)]]⟩
def Ex125_0 (a0:Int) (a1:Int) (d:(Int × Int)):AExit × ASt:=(.exit 0,⟨[(0,.int .i64 a0,false),(1,.int .i64 a1,false),(4,.ptr 0 0,false),(5,.int .i64 d.1,false),(6,.int .i64 d.2,false),(10,.bool false,false)],[.cells [(.int .i64 0,false),(.int .i64 0,false)]]⟩)
theorem b125_0 (a0:Int) (a1:Int) (s0:Int × Int) (r) (h:s125_0 a0 a1 s0=some r):stepO pr c125_0 (St125_0 a0 a1) (Ex125_0 a0 a1) s0 r:=by
 unfold s125_0 at h
 rcases cond_split h with ⟨h7,h⟩ | ⟨h7,h⟩
 ·cases h
  exact stepO_out (by simp only [go_sem,seval,c125_0,St125_0,h7,Ex125_0] <;> rfl)
 ·obtain ⟨v8,h9,h⟩:=obind_some h
  cases h
  exact stepO_in (st':=⟨[(0,.int .i64 a0,false),(1,.int .i64 a1,false),(4,.ptr 0 0,false),(5,.int .i64 s0.2,false),(6,.int .i64 v8,false)],[.cells [(.int .i64 0,false),(.int .i64 0,false)]]⟩) (by simp only [go_sem,seval,c125_0,St125_0,h7,b_rem_O h9] <;> rfl) (gc_same (Nat.le_refl _))
theorem l125_0 (a0:Int) (a1:Int) {s0:Int × Int} {d} (h:itO (s125_0 a0 a1) s0=some d):X pr (.loop c125_0) (St125_0 a0 a1 s0)=some (Ex125_0 a0 a1 d):=X_itO (b125_0 a0 a1) (fun d hh=>by cases hh) h
noncomputable def f125 (a0:Int) (a1:Int):Option GRat:=
 obind (itO (s125_0 a0 a1) (a0,a1)) fun d10=>
 obind (quoO .i64 a0 d10.1) fun v12=>
 obind (quoO .i64 a1 d10.1) fun v14=>
 some (⟨v12,v14⟩)
theorem W125 {a0:Int} {a1:Int} {r} (h:f125 a0 a1=some r):callIso pr (X pr) 125 [.int .i64 a0,.int .i64 a1]=some (.agg [.int .i64 r.num,.int .i64 r.den],false):=by
 unfold f125 at h
 obtain ⟨d10,h11,h⟩:=obind_some h
 have wh11:X pr (.loop c125_0) ⟨[(0,.int .i64 a0,false),(1,.int .i64 a1,false),(4,.ptr 0 0,false),(5,.int .i64 a0,false),(6,.int .i64 a1,false)],[.cells [(.int .i64 0,false),(.int .i64 0,false)]]⟩=some (.exit 0,⟨[(0,.int .i64 a0,false),(1,.int .i64 a1,false),(4,.ptr 0 0,false),(5,.int .i64 d10.1,false),(6,.int .i64 d10.2,false),(10,.bool false,false)],[.cells [(.int .i64 0,false),(.int .i64 0,false)]]⟩):=l125_0 a0 a1 h11
 obtain ⟨v12,h13,h⟩:=obind_some h
 obtain ⟨v14,h15,h⟩:=obind_some h
 have hr:⟨v12,v14⟩=r:=Option.some.inj h
 subst hr
 refine iso_F rfl ?_ (fun _=>by first | rfl | simp only [go_sem,seval]) (by first | rfl | simp only [go_sem,seval])
 rw [callFn_at (show pr.fns 125=some c125 from rfl) (by simp)]
 simp only [go_sem,seval,c125,wh11,b_quo_O h13,b_quo_O h15]
 exact ⟨_,rfl⟩
noncomputable def s174_0 (a0:Int) (a1:Int) (s0:Int × Int):Option ((Int × Int) ⊕ ((Int × Int))):=
 cond (decide (s0.2=0))
  (some (.inr (s0.1,s0.2)))
  (obind (remO s0.1 s0.2) fun v8=>
  some (.inl (s0.2,v8)))
def St174_0 (a0:Int) (a1:Int) (s0:Int × Int):ASt:=⟨[(0,.int .i64 a0,false),(1,.int .i64 a1,false),(4,.ptr 0 0,false),(5,.int .i64 s0.1,false),(6,.int .i64 s0.2,false)],[.cells [(.int .i64 0,false),(.int .i64 0,false)]]⟩
def Ex174_0 (a0:Int) (a1:Int) (d:(Int × Int)):AExit × ASt:=(.exit 0,⟨[(0,.int .i64 a0,false),(1,.int .i64 a1,false),(4,.ptr 0 0,false),(5,.int .i64 d.1,false),(6,.int .i64 d.2,false),(10,.bool false,false)],[.cells [(.int .i64 0,false),(.int .i64 0,false)]]⟩)
theorem b174_0 (a0:Int) (a1:Int) (s0:Int × Int) (r) (h:s174_0 a0 a1 s0=some r):stepO pr c174_0 (St174_0 a0 a1) (Ex174_0 a0 a1) s0 r:=by
 unfold s174_0 at h
 rcases cond_split h with ⟨h7,h⟩ | ⟨h7,h⟩
 ·cases h
  exact stepO_out (by simp only [go_sem,seval,c174_0,St174_0,h7,Ex174_0] <;> rfl)
 ·obtain ⟨v8,h9,h⟩:=obind_some h
  cases h
  exact stepO_in (st':=⟨[(0,.int .i64 a0,false),(1,.int .i64 a1,false),(4,.ptr 0 0,false),(5,.int .i64 s0.2,false),(6,.int .i64 v8,false)],[.cells [(.int .i64 0,false),(.int .i64 0,false)]]⟩) (by simp only [go_sem,seval,c174_0,St174_0,h7,b_rem_O h9] <;> rfl) (gc_same (Nat.le_refl _))
theorem l174_0 (a0:Int) (a1:Int) {s0:Int × Int} {d} (h:itO (s174_0 a0 a1) s0=some d):X pr (.loop c174_0) (St174_0 a0 a1 s0)=some (Ex174_0 a0 a1 d):=X_itO (b174_0 a0 a1) (fun d hh=>by cases hh) h
noncomputable def f174 (a0:Int) (a1:Int):Option GRat:=
 obind (itO (s174_0 a0 a1) (a0,a1)) fun d10=>
 obind (quoO .i64 a0 d10.1) fun v12=>
 obind (quoO .i64 a1 d10.1) fun v14=>
 some (⟨v12,v14⟩)
theorem W174 {a0:Int} {a1:Int} {r} (h:f174 a0 a1=some r):callIso pr (X pr) 174 [.int .i64 a0,.int .i64 a1]=some (.agg [.int .i64 r.num,.int .i64 r.den],false):=by
 unfold f174 at h
 obtain ⟨d10,h11,h⟩:=obind_some h
 have wh11:X pr (.loop c174_0) ⟨[(0,.int .i64 a0,false),(1,.int .i64 a1,false),(4,.ptr 0 0,false),(5,.int .i64 a0,false),(6,.int .i64 a1,false)],[.cells [(.int .i64 0,false),(.int .i64 0,false)]]⟩=some (.exit 0,⟨[(0,.int .i64 a0,false),(1,.int .i64 a1,false),(4,.ptr 0 0,false),(5,.int .i64 d10.1,false),(6,.int .i64 d10.2,false),(10,.bool false,false)],[.cells [(.int .i64 0,false),(.int .i64 0,false)]]⟩):=l174_0 a0 a1 h11
 obtain ⟨v12,h13,h⟩:=obind_some h
 obtain ⟨v14,h15,h⟩:=obind_some h
 have hr:⟨v12,v14⟩=r:=Option.some.inj h
 subst hr
 refine iso_F rfl ?_ (fun _=>by first | rfl | simp only [go_sem,seval]) (by first | rfl | simp only [go_sem,seval])
 rw [callFn_at (show pr.fns 174=some c174 from rfl) (by simp)]
 simp only [go_sem,seval,c174,wh11,b_quo_O h13,b_quo_O h15]
 exact ⟨_,rfl⟩
noncomputable def f63 (a0:GRat) (a1:GRat):Option GRat:=
 some (⟨wrapF .i64 ((wrapF .i64 (a0.num * a1.num)) - (wrapF .i64 (a0.den * a1.den))),wrapF .i64 ((wrapF .i64 (a0.num * a1.den)) + (wrapF .i64 (a0.den * a1.num)))⟩)
theorem W63 {a0:GRat} {a1:GRat} {r} (h:f63 a0 a1=some r):callIso pr (X pr) 63 [.agg [.int .i64 a0.num,.int .i64 a0.den],.agg [.int .i64 a1.num,.int .i64 a1.den]]=some (.agg [.int .i64 r.num,.int .i64 r.den],false):=by
 unfold f63 at h
 have hr:⟨wrapF .i64 ((wrapF .i64 (a0.num * a1.num)) - (wrapF .i64 (a0.den * a1.den))),wrapF .i64 ((wrapF .i64 (a0.num * a1.den)) + (wrapF .i64 (a0.den * a1.num)))⟩=r:=Option.some.inj h
 subst hr
 refine iso_F rfl ?_ (fun _=>by first | rfl | simp only [go_sem,seval]) (by first | rfl | simp only [go_sem,seval])
 rw [callFn_at (show pr.fns 63=some c63 from rfl) (by simp)]
 simp only [go_sem,seval,c63]
 exact ⟨_,rfl⟩
noncomputable def f64 (a0:GRat) (a1:GRat):Option GRat:=
 some (⟨wrapF .i64 (a0.num + a1.num),wrapF .i64 (a0.den + a1.den)⟩)
theorem W64 {a0:GRat} {a1:GRat} {r} (h:f64 a0 a1=some r):callIso pr (X pr) 64 [.agg [.int .i64 a0.num,.int .i64 a0.den],.agg [.int .i64 a1.num,.int .i64 a1.den]]=some (.agg [.int .i64 r.num,.int .i64 r.den],false):=by
 unfold f64 at h
 have hr:⟨wrapF .i64 (a0.num + a1.num),wrapF .i64 (a0.den + a1.den)⟩=r:=Option.some.inj h
 subst hr
 refine iso_F rfl ?_ (fun _=>by first | rfl | simp only [go_sem,seval]) (by first | rfl | simp only [go_sem,seval])
 rw [callFn_at (show pr.fns 64=some c64 from rfl) (by simp)]
 simp only [go_sem,seval,c64]
 exact ⟨_,rfl⟩
noncomputable def f65 (a0:GRat) (a1:GRat):Option GRat:=
 some (⟨wrapF .i64 (a0.num - a1.num),wrapF .i64 (a0.den - a1.den)⟩)
theorem W65 {a0:GRat} {a1:GRat} {r} (h:f65 a0 a1=some r):callIso pr (X pr) 65 [.agg [.int .i64 a0.num,.int .i64 a0.den],.agg [.int .i64 a1.num,.int .i64 a1.den]]=some (.agg [.int .i64 r.num,.int .i64 r.den],false):=by
 unfold f65 at h
 have hr:⟨wrapF .i64 (a0.num - a1.num),wrapF .i64 (a0.den - a1.den)⟩=r:=Option.some.inj h
 subst hr
 refine iso_F rfl ?_ (fun _=>by first | rfl | simp only [go_sem,seval]) (by first | rfl | simp only [go_sem,seval])
 rw [callFn_at (show pr.fns 65=some c65 from rfl) (by simp)]
 simp only [go_sem,seval,c65]
 exact ⟨_,rfl⟩
noncomputable def s66_0 (a0:Int) (a1:Int) (s0:Int × Int):Option ((Int × Int) ⊕ ((Int × Int))):=
 cond (decide (s0.2=0))
  (some (.inr (s0.1,s0.2)))
  (obind (remO s0.1 s0.2) fun v9=>
  some (.inl (s0.2,v9)))
def St66_0 (a0:Int) (a1:Int) (s0:Int × Int):ASt:=⟨[(0,.int .i64 (wrapF .i64 (0 - a0)),false),(1,.int .i64 (wrapF .i64 (0 - a1)),false),(4,.ptr 0 0,false),(5,.int .i64 s0.1,false),(6,.int .i64 s0.2,false)],[.cells [(.int .i64 0,false),(.int .i64 0,false)]]⟩
def Ex66_0 (a0:Int) (a1:Int) (d:(Int × Int)):AExit × ASt:=(.exit 0,⟨[(0,.int .i64 (wrapF .i64 (0 - a0)),false),(1,.int .i64 (wrapF .i64 (0 - a1)),false),(4,.ptr 0 0,false),(5,.int .i64 d.1,false),(6,.int .i64 d.2,false),(19,.bool false,false)],[.cells [(.int .i64 0,false),(.int .i64 0,false)]]⟩)
theorem b66_0 (a0:Int) (a1:Int) (s0:Int × Int) (r) (h:s66_0 a0 a1 s0=some r):stepO pr c66_0 (St66_0 a0 a1) (Ex66_0 a0 a1) s0 r:=by
 unfold s66_0 at h
 rcases cond_split h with ⟨h8,h⟩ | ⟨h8,h⟩
 ·cases h
  exact stepO_out (by simp only [go_sem,seval,c66_0,St66_0,h8,Ex66_0] <;> rfl)
 ·obtain ⟨v9,h10,h⟩:=obind_some h
  cases h
  exact stepO_in (st':=⟨[(0,.int .i64 (wrapF .i64 (0 - a0)),false),(1,.int .i64 (wrapF .i64 (0 - a1)),false),(4,.ptr 0 0,false),(5,.int .i64 s0.2,false),(6,.int .i64 v9,false)],[.cells [(.int .i64 0,false),(.int .i64 0,false)]]⟩) (by simp only [go_sem,seval,c66_0,St66_0,h8,b_rem_O h10] <;> rfl) (gc_same (Nat.le_refl _))
theorem l66_0 (a0:Int) (a1:Int) {s0:Int × Int} {d} (h:itO (s66_0 a0 a1) s0=some d):X pr (.loop c66_0) (St66_0 a0 a1 s0)=some (Ex66_0 a0 a1 d):=X_itO (b66_0 a0 a1) (fun d hh=>by cases hh) h
noncomputable def s66_0b (a0:Int) (a1:Int) (s0:Int × Int):Option ((Int × Int) ⊕ ((Int × Int))):=
 cond (decide (s0.2=0))
  (some (.inr (s0.1,s0.2)))
  (obind (remO s0.1 s0.2) fun v24=>
  some (.inl (s0.2,v24)))
def St66_0b (a0:Int) (a1:Int) (s0:Int × Int):ASt:=⟨[(0,.int .i64 a0,false),(1,.int .i64 a1,false),(4,.ptr 0 0,false),(5,.int .i64 s0.1,false),(6,.int .i64 s0.2,false)],[.cells [(.int .i64 0,false),(.int .i64 0,false)]]⟩
def Ex66_0b (a0:Int) (a1:Int) (d:(Int × Int)):AExit × ASt:=(.exit 0,⟨[(0,.int .i64 a0,false),(1,.int .i64 a1,false),(4,.ptr 0 0,false),(5,.int .i64 d.1,false),(6,.int .i64 d.2,false),(19,.bool false,false)],[.cells [(.int .i64 0,false),(.int .i64 0,false)]]⟩)
theorem b66_0b (a0:Int) (a1:Int) (s0:Int × Int) (r) (h:s66_0b a0 a1 s0=some r):stepO pr c66_0 (St66_0b a0 a1) (Ex66_0b a0 a1) s0 r:=by
 unfold s66_0b at h
 rcases cond_split h with ⟨h23,h⟩ | ⟨h23,h⟩
 ·cases h
  exact stepO_out (by simp only [go_sem,seval,c66_0,St66_0b,h23,Ex66_0b] <;> rfl)
 ·obtain ⟨v24,h25,h⟩:=obind_some h
  cases h
  exact stepO_in (st':=⟨[(0,.int .i64 a0,false),(1,.int .i64 a1,false),(4,.ptr 0 0,false),(5,.int .i64 s0.2,false),(6,.int .i64 v24,false)],[.cells [(.int .i64 0,false),(.int .i64 0,false)]]⟩) (by simp only [go_sem,seval,c66_0,St66_0b,h23,b_rem_O h25] <;> rfl) (gc_same (Nat.le_refl _))
theorem l66_0b (a0:Int) (a1:Int) {s0:Int × Int} {d} (h:itO (s66_0b a0 a1) s0=some d):X pr (.loop c66_0) (St66_0b a0 a1 s0)=some (Ex66_0b a0 a1 d):=X_itO (b66_0b a0 a1) (fun d hh=>by cases hh) h
noncomputable def f66 (a0:Int) (a1:Int):Option GRat:=
 cond (decide (a1 < 0))
  (obind (itO (s66_0 a0 a1) (max (wrapF .i64 (0 - a0)) (wrapF .i64 (0 - (wrapF .i64 (0 - a0)))),wrapF .i64 (0 - a1))) fun d11=>
  obind (quoO .i64 (wrapF .i64 (0 - a0)) d11.1) fun v13=>
  obind (quoO .i64 (wrapF .i64 (0 - a1)) d11.1) fun v15=>
  some (⟨v13,v15⟩))
  (obind (itO (s66_0b a0 a1) (max a0 (wrapF .i64 (0 - a0)),a1)) fun d26=>
  obind (quoO .i64 a0 d26.1) fun v28=>
  obind (quoO .i64 a1 d26.1) fun v30=>
  some (⟨v28,v30⟩))
theorem W66 {a0:Int} {a1:Int} {r} (h:f66 a0 a1=some r):callIso pr (X pr) 66 [.int .i64 a0,.int .i64 a1]=some (.agg [.int .i64 r.num,.int .i64 r.den],false):=by
 unfold f66 at h
 rcases cond_split h with ⟨h1,h⟩ | ⟨h1,h⟩
 ·obtain ⟨d11,h12,h⟩:=obind_some h
  have wh12:X pr (.loop c66_0) ⟨[(0,.int .i64 (wrapF .i64 (0 - a0)),false),(1,.int .i64 (wrapF .i64 (0 - a1)),false),(4,.ptr 0 0,false),(5,.int .i64 (max (wrapF .i64 (0 - a0)) (wrapF .i64 (0 - (wrapF .i64 (0 - a0))))),false),(6,.int .i64 (wrapF .i64 (0 - a1)),false)],[.cells [(.int .i64 0,false),(.int .i64 0,false)]]⟩=some (.exit 0,⟨[(0,.int .i64 (wrapF .i64 (0 - a0)),false),(1,.int .i64 (wrapF .i64 (0 - a1)),false),(4,.ptr 0 0,false),(5,.int .i64 d11.1,false),(6,.int .i64 d11.2,false),(19,.bool false,false)],[.cells [(.int .i64 0,false),(.int .i64 0,false)]]⟩):=l66_0 a0 a1 h12
  obtain ⟨v13,h14,h⟩:=obind_some h
  obtain ⟨v15,h16,h⟩:=obind_some h
  have hr:⟨v13,v15⟩=r:=Option.some.inj h
  subst hr
  refine iso_F rfl ?_ (fun _=>by first | rfl | simp only [go_sem,seval]) (by first | rfl | simp only [go_sem,seval])
  rw [callFn_at (show pr.fns 66=some c66 from rfl) (by simp)]
  simp only [go_sem,seval,c66,h1,wh12,b_quo_O h14,b_quo_O h16]
  exact ⟨_,rfl⟩
 ·obtain ⟨d26,h27,h⟩:=obind_some h
  have wh27:X pr (.loop c66_0) ⟨[(0,.int .i64 a0,false),(1,.int .i64 a1,false),(4,.ptr 0 0,false),(5,.int .i64 (max a0 (wrapF .i64 (0 - a0))),false),(6,.int .i64 a1,false)],[.cells [(.int .i64 0,false),(.int .i64 0,false)]]⟩=some (.exit 0,⟨[(0,.int .i64 a0,false),(1,.int .i64 a1,false),(4,.ptr 0 0,false),(5,.int .i64 d26.1,false),(6,.int .i64 d26.2,false),(19,.bool false,false)],[.cells [(.int .i64 0,false),(.int .i64 0,false)]]⟩):=l66_0b a0 a1 h27
  obtain ⟨v28,h29,h⟩:=obind_some h
  obtain ⟨v30,h31,h⟩:=obind_some h
  have hr:⟨v28,v30⟩=r:=Option.some.inj h
  subst hr
  refine iso_F rfl ?_ (fun _=>by first | rfl | simp only [go_sem,seval]) (by first | rfl | simp only [go_sem,seval])
  rw [callFn_at (show pr.fns 66=some c66 from rfl) (by simp)]
  simp only [go_sem,seval,c66,h1,wh27,b_quo_O h29,b_quo_O h31]
  exact ⟨_,rfl⟩
end Go.Z
/-
 Chapter 4: the chain matrix and the divisor of a ladder,in the program: a range over a function.
-/
namespace Go.Z
open Go Go.Abs
def pcL:ACode→ACode
 | .seq a _=>a
 | x=>x
def pcR:ACode→ACode
 | .seq _ b=>b
 | x=>x
def pcB:ACode→ACode
 | .block _ b=>b
 | x=>x
def rfA:ACode→ACode
 | .rangeFunc _ _ a _=>a
 | x=>x
def rfB:ACode→ACode
 | .rangeFunc _ _ _ b=>b
 | x=>x
theorem after_tail {n:Nat} {v:AVal} {h t:Heap} (hn:h.length=n) (hv:Abs.below n v=true) (hb:belowHeap n h=true):afterShared n v (h++t)=h:=by
 have ht:(h++t).take n=h:=by rw [← hn,List.take_left']; rfl
 unfold afterShared
 rw [ht,hv,hb]
 cases hc:Nat.ble (h++t).length n with
 | false=>rfl
 | true=>
  have:=Nat.le_of_ble_eq_true hc
  rw [List.length_append] at this
  have h0:t=[]:=List.length_eq_zero_iff.1 (by omega)
  subst h0
  simp
def mcs (m:GMat):List (AVal × Bool):=[(.int .i64 m.m0,false),(.int .i64 m.m1,false),(.int .i64 m.m2,false),(.int .i64 m.m3,false),(.int .i64 m.m4,false),(.int .i64 m.m5,false),(.int .i64 m.m6,false),(.int .i64 m.m7,false)]
def gcs (d:GRat):List (AVal × Bool):=[(.int .i64 d.num,false),(.int .i64 d.den,false)]
def rf173:ACode:=pcB (pcR (pcL (pcR (pcR c173.body))))
def as173:ACode:=rfA rf173
def bd173:ACode:=rfB rf173
theorem rf173_eq:rf173=.rangeFunc (.tmp 18) [19,20] as173 bd173:=rfl
section
variable (l:Option (List GEl)) (w:Int)
def E173:Env:=[(4,.ptr 0 0,false),(5,.ptr 1 0,false),(6,.ptr 2 0,false),(7,.ptr 3 0,false),(18,.fn (.func 233) [] [.vptr (sl 3 vel l),.vptr (.int .i64 w)],false)]
def z2:List (AVal × Bool):=[(.int .i64 0,false),(.int .i64 0,false)]
def z8:List (AVal × Bool):=[(.int .i64 0,false),(.int .i64 0,false),(.int .i64 0,false),(.int .i64 0,false),(.int .i64 0,false),(.int .i64 0,false),(.int .i64 0,false),(.int .i64 0,false)]
def G173 (m:GMat) (d:GRat):Heap:=[.cells z8,.cells z2,.cells (mcs m),.cells (gcs d)]
def H173 (m:GMat) (d:GRat) (pd:Option AExit) (t:Heap):Heap:=.cells z8::.cells z2::.cells (mcs m)::.cells (gcs d)::.loop ⟨E173 l w,[19,20],as173,bd173,pd⟩::t
def ke (s:List UInt8) (b:Bool) (n:Nat):AVal:=.agg [.str s,.bool b,.fn (.func n) [] []]
def ga (v:GRat):AVal:=.agg [.int .i64 v.num,.int .i64 v.den]
def tl (s:List UInt8) (b:Bool) (n:Nat) (v:GRat):Heap:=[.cells [(.str s,false),(.bool b,false),(.fn (.func n) [] [],false)],.cells (gcs v)]
def t2 (x:GEl):Heap:=[.map kmap193,.cells [(.str x.kind,false),(.int .i64 x.a,false),(.int .i64 x.b,false)]]
def Eb173:Env:=[(4,.ptr 0 0,false),(5,.ptr 1 0,false),(6,.ptr 2 0,false),(7,.ptr 3 0,false),(8,.ptr 7 0,false),(9,.ptr 8 0,false)]
variable {l w}
theorem as173_run {s b n} {v m d} {x:GEl}:X pr as173 ⟨(20,ga v,false)::(19,ke s b n,false)::E173 l w,H173 l w m d none (t2 x)⟩=some (.normal,⟨Eb173,H173 l w m d none (t2 x++tl s b n v)⟩):=by
 simp only [go_sem,seval,as173,rfA,rf173,pcB,pcL,pcR,c173,E173,ke,ga,H173,t2] <;> rfl
theorem bd173_run {s b n} {v c m m1:_} {d d1:GRat} {x:GEl} {pd} (h1:callIso pr (X pr) n [ga v]=some (.agg [.int .i64 c.m0,.int .i64 c.m1,.int .i64 c.m2,.int .i64 c.m3,.int .i64 c.m4,.int .i64 c.m5,.int .i64 c.m6,.int .i64 c.m7],false))
  (h2:f206 m c=some m1) (h3:cond b (f207 d v) (some d)=some d1):∃ e,X pr bd173 ⟨Eb173,H173 l w m d pd (t2 x++tl s b n v)⟩=some (.normal,⟨e,H173 l w m1 d1 pd (t2 x++tl s b n v)⟩):=by
 have g2:=W206 h2
 simp only [ga] at h1
 cases b with
 | true=>
  have g3:=W207 (show f207 d v=some d1 from h3)
  simp only [go_sem,seval,bd173,rfB,rf173,pcB,pcL,pcR,c173,Eb173,H173,t2,tl,mcs,gcs,h1,g2,g3]
  exact ⟨_,rfl⟩
 | false=>
  obtain rfl:d=d1:=Option.some.inj h3
  simp only [go_sem,seval,bd173,rfB,rf173,pcB,pcL,pcR,c173,Eb173,H173,t2,tl,mcs,gcs,h1,g2]
  exact ⟨_,rfl⟩
theorem E173_below:belowEnv 7 (E173 l w)=true:=by
 have hb:Abs.below 7 (sl 3 vel l)=true:=by simp only [go_sem,seval]
 have h1:belowL 7 [.vptr (sl 3 vel l),.vptr (.int .i64 w)]=true:=by
  show (Abs.below 7 (sl 3 vel l) && true)=true
  rw [hb]; rfl
 have h2:Abs.below 7 (.fn (.func 233) [] [.vptr (sl 3 vel l),.vptr (.int .i64 w)])=true:=by
  show (true && belowL 7 [.vptr (sl 3 vel l),.vptr (.int .i64 w)])=true
  rw [h1]; rfl
 simp only [E173,belowEnv,List.all_cons,List.all_nil,h2]
 rfl
theorem E173_below6:belowEnv 6 (E173 l w)=true:=by
 have hb:Abs.below 6 (sl 3 vel l)=true:=by simp only [go_sem,seval]
 have h1:belowL 6 [.vptr (sl 3 vel l),.vptr (.int .i64 w)]=true:=by
  show (Abs.below 6 (sl 3 vel l) && true)=true
  rw [hb]; rfl
 have h2:Abs.below 6 (.fn (.func 233) [] [.vptr (sl 3 vel l),.vptr (.int .i64 w)])=true:=by
  show (true && belowL 6 [.vptr (sl 3 vel l),.vptr (.int .i64 w)])=true
  rw [h1]; rfl
 simp only [E173,belowEnv,List.all_cons,List.all_nil,h2]
 rfl
theorem H173_below {m d pd} {x:GEl}:belowHeap 7 (H173 l w m d pd (t2 x))=true:=by
 simp only [H173,t2,belowHeap,List.all_cons,List.all_nil,belowBox,E173_below,mcs,gcs,z8,z2,kmap193]
 rfl
theorem y173 {s b n} {v c m m1:_} {d d1:GRat} {x:GEl} (h1:callIso pr (X pr) n [ga v]=some (.agg [.int .i64 c.m0,.int .i64 c.m1,.int .i64 c.m2,.int .i64 c.m3,.int .i64 c.m4,.int .i64 c.m5,.int .i64 c.m6,.int .i64 c.m7],false))
  (h2:f206 m c=some m1) (h3:cond b (f207 d v) (some d)=some d1):yieldOp (X pr) 4 [ke s b n,ga v] (H173 l w m d none (t2 x))=some (.bool true,H173 l w m1 d1 none (t2 x)):=by
 have g:∀ m d pd t,getBox (H173 l w m d pd t) 4=some (.loop ⟨E173 l w,[19,20],as173,bd173,pd⟩):=fun _ _ _ _=>rfl
 have se:setEnvs (noOwn (E173 l w)) [19,20] [ke s b n,ga v]=some ((20,ga v,false)::(19,ke s b n,false)::E173 l w):=rfl
 have st:∀ m d pd pd' t,(H173 l w m d pd t).set 4 (.loop ⟨E173 l w,[19,20],as173,bd173,pd'⟩)=H173 l w m d pd' t:=fun _ _ _ _ _=>rfl
 have hl:∀ m d pd,(H173 l w m d pd (t2 x)).length=7:=fun _ _ _=>rfl
 have ha:∀ m d pd v t,Abs.below 7 v=true→afterShared 7 v (H173 l w m d pd (t2 x++t))=H173 l w m d pd (t2 x):=fun m d pd v t hv=>after_tail (h:=H173 l w m d pd (t2 x)) rfl hv H173_below
 obtain ⟨e,hb⟩:=bd173_run (l:=l) (w:=w) (s:=s) (x:=x) (pd:=some .normal) h1 h2 h3
 unfold yieldOp
 simp only [g,se,as173_run,Option.isNone_none,cond_true,st,hl,hb]
 rw [ha _ _ _ _ _ rfl]
end
noncomputable def kOf (s:List UInt8) (v:GRat):Option (GMat × Bool):=
 cond (decide (s=([98,108,111,99,107]:List UInt8))) (obind (f218 v) fun c=>some (c,true))
  (cond (decide (s=([115,101,114,105,101,115]:List UInt8))) (obind (f219 v) fun c=>some (c,false))
  (cond (decide (s=([115,104,117,110,116]:List UInt8))) (obind (f220 v) fun c=>some (c,false))
   (cond (decide (s=([116,114,97,112]:List UInt8))) (obind (f221 v) fun c=>some (c,true)) none)))
theorem kOf_run {s:List UInt8} {v:GRat} {c b} (h:kOf s v=some (c,b)):∃ t k n,findEntry .str (.str s) kmap193 0=some (some (t,ke k b n))∧callIso pr (X pr) n [ga v]=some (.agg [.int .i64 c.m0,.int .i64 c.m1,.int .i64 c.m2,.int .i64 c.m3,.int .i64 c.m4,.int .i64 c.m5,.int .i64 c.m6,.int .i64 c.m7],false):=by
 unfold kOf at h
 rcases cond_split h with ⟨h1,k⟩ | ⟨h1,k⟩
 ·obtain ⟨c',h2,k⟩:=obind_some k
  cases k
  exact ⟨_,_,_,kind0 h1,W218 h2⟩
 rcases cond_split k with ⟨h2,k⟩ | ⟨h2,k⟩
 ·obtain ⟨c',h3,k⟩:=obind_some k
  cases k
  exact ⟨_,_,_,kind1 h1 h2,W219 h3⟩
 rcases cond_split k with ⟨h3,k⟩ | ⟨h3,k⟩
 ·obtain ⟨c',h4,k⟩:=obind_some k
  cases k
  exact ⟨_,_,_,kind2 h1 h2 h3,W220 h4⟩
 rcases cond_split k with ⟨h4,k⟩ | ⟨h4,k⟩
 ·obtain ⟨c',h5,k⟩:=obind_some k
  cases k
  exact ⟨_,_,_,kind3 h1 h2 h3 h4,W221 h5⟩
 ·cases k
noncomputable def stepM (w:Int) (q:GMat × GRat) (x:GEl):Option (GMat × GRat):=
 obind (kOf x.kind ⟨x.a,wrapF .i64 (w * x.b)⟩) fun c=>obind (f206 q.1 c.1) fun m=>obind (cond c.2 (f207 q.2 ⟨x.a,wrapF .i64 (w * x.b)⟩) (some q.2)) fun d=>some (m,d)
noncomputable def foldM (w:Int):List GEl→GMat × GRat→Option (GMat × GRat)
 | [],q=>some q
 | x::l,q=>obind (stepM w q x) fun q'=>foldM w l q'
noncomputable def s233 (w:Int) (l:Option (List GEl)) (d:Int × GMat × GRat):Option ((Int × GMat × GRat) ⊕ (Int × GMat × GRat)):=
 cond (decide (d.1 < ((l.getD []).length:Int))) (obind (idxO (l.getD []) d.1) fun x=>obind (stepM w d.2 x) fun q=>some (.inl (wrapF .i64 (d.1 + 1),q))) (some (.inr d))
def St233 (w:Int) (l:Option (List GEl)) (d:Int × GMat × GRat):ASt:=⟨[(0,.fn (.yield 4) [] [],false),(2,.vptr (.int .i64 w),false),(4,.map 5,false),(8,sl 3 vel l,false),(9,.int .i64 ((l.getD []).length:Int),false),(10,.int .i64 d.1,false)],H173 l w d.2.1 d.2.2 none [.map kmap193]⟩
def Ex233 (w:Int) (l:Option (List GEl)) (d:Int × GMat × GRat):AExit × ASt:=(.exit 0,⟨[(0,.fn (.yield 4) [] [],false),(2,.vptr (.int .i64 w),false),(4,.map 5,false),(8,sl 3 vel l,false),(9,.int .i64 ((l.getD []).length:Int),false),(10,.int .i64 d.1,false),(11,.bool false,false)],H173 l w d.2.1 d.2.2 none [.map kmap193]⟩)
theorem b233 {w:Int} {l:Option (List GEl)} (d:Int × GMat × GRat) (r) (h:s233 w l d=some r):stepO pr c233_0 (St233 w l) (Ex233 w l) d r:=by
 obtain ⟨i,m,e⟩:=d
 unfold s233 at h
 dsimp only at h
 rcases cond_split h with ⟨h1,k⟩ | ⟨h1,k⟩
 ·obtain ⟨x,h2,k⟩:=obind_some k
  obtain ⟨q,h3,k⟩:=obind_some k
  cases k
  unfold stepM at h3
  obtain ⟨⟨c,b⟩,h4,k⟩:=obind_some h3
  obtain ⟨m1,h5,k⟩:=obind_some k
  obtain ⟨d1,h6,k⟩:=obind_some k
  cases k
  obtain ⟨t,kk,n,g1,g2⟩:=kOf_run h4
  have hy:=y173 (l:=l) (w:=w) (s:=kk) (x:=x) g2 h5 h6
  simp only [H173,t2,ke,ga] at hy g1
  refine stepO_in (st':=⟨[(0,.fn (.yield 4) [] [],false),(2,.vptr (.int .i64 w),false),(4,.map 5,false),(8,sl 3 vel l,false),(9,.int .i64 ((l.getD []).length:Int),false),(10,.int .i64 (wrapF .i64 (i + 1)),false)],H173 l w m1 d1 none (t2 x)⟩) (by simp only [go_sem,seval,c233_0,St233,H173,t2,h1,idxR_O h2,g1,hy] <;> rfl) ?_
  exact gc_over (h:=H173 l w m1 d1 none [.map kmap193]) (h':=[.cells [(.str x.kind,false),(.int .i64 x.a,false),(.int .i64 x.b,false)]]) rfl rfl (by
   have hb:Abs.below 6 (sl 3 vel l)=true:=by simp only [go_sem,seval]
   show ((true && true) && ((true && true) && (true && (Abs.below 6 (sl 3 vel l) && (true && (true && true))))))=true
   rw [hb]; rfl) (by
   show belowHeap 6 _=true
   simp only [H173,belowHeap,List.all_cons,List.all_nil,belowBox,E173_below6,mcs,gcs,z8,z2,kmap193]
   rfl)
 ·cases k
  exact stepO_out (by simp only [go_sem,seval,c233_0,St233,H173,h1,Ex233] <;> rfl)
theorem it233 {w:Int} {l:Option (List GEl)} (hl:(l.getD []).length≤5):∀ {k:Nat} {i:Nat} {q r:GMat × GRat},(l.getD []).length=i + k→foldM w ((l.getD []).drop i) q=some r→itO (s233 w l) ((i:Int),q)=some (((l.getD []).length:Int),r)
 | 0,i,q,r,hk,h=>by
  rw [List.drop_eq_nil_of_le (by omega)] at h
  cases h
  have hd:decide ((i:Int) < ((l.getD []).length:Int))=false:=decide_eq_false (by omega)
  rw [itO_out (d:=((i:Int),q)) (by simp only [s233,hd,cond_false]),show (i:Int)=((l.getD []).length:Int) by omega]
 | k + 1,i,q,r,hk,h=>by
  have hi:i < (l.getD []).length:=by omega
  have hx:(l.getD [])[i]?=some (l.getD [])[i]:=List.getElem?_eq_getElem hi
  rw [drop_cons hx] at h
  simp only [foldM] at h
  obtain ⟨q1,h1,h2⟩:=obind_some h
  have hd:decide ((i:Int) < ((l.getD []).length:Int))=true:=decide_eq_true (by omega)
  have hw:wrapF .i64 ((i:Int) + 1)=((i + 1:Nat):Int):=by
   have:i≤4:=by omega
   match i,this with
   | 0,_=>rfl
   | 1,_=>rfl
   | 2,_=>rfl
   | 3,_=>rfl
   | 4,_=>rfl
  rw [itO_in (s':=(((i + 1:Nat):Int),q1)) (by simp only [s233,hd,cond_true,idxO_nat,hx,obind,h1,hw])]
  exact it233 hl (k:=k) (i:=i + 1) (by omega) h2
section
variable {l:Option (List GEl)} {w:Int} {m m1:GMat} {d d1:GRat}
theorem W233 (hl:(l.getD []).length≤5) (h:foldM w (l.getD []) (m,d)=some (m1,d1)):∃ t,callFn pr (X pr) 233 [.fn (.yield 4) [] [],.vptr (sl 3 vel l),.vptr (.int .i64 w)] (H173 l w m d none [])=some (.tup [],false,H173 l w m1 d1 none t):=by
 have h0:=it233 (k:=(l.getD []).length) (i:=0) hl (by omega) (by rw [List.drop_zero]; exact h)
 have h1:X pr (.loop c233_0) (St233 w l (0,m,d))=some (Ex233 w l (((l.getD []).length:Int),m1,d1)):=X_itO b233 (fun d=>by intro hh; cases hh) h0
 rw [callFn_at (show pr.fns 233=some c233 from rfl) (by simp)]
 have hm:pr.maps 193=some kmap193:=rfl
 simp only [St233,Ex233,H173] at h1 ⊢
 simp only [go_sem,seval,c233,h1,hm]
 exact ⟨_,rfl⟩
theorem range173 (hl:(l.getD []).length≤5) (h:foldM w (l.getD []) (m,d)=some (m1,d1)):X pr rf173 ⟨E173 l w,G173 m d⟩=some (.normal,⟨E173 l w,G173 m1 d1⟩):=by
 obtain ⟨t,h1⟩:=W233 hl h
 have hb:∀ m d,belowHeap 4 (G173 m d)=true:=by
  intro m d
  simp only [G173,belowHeap,List.all_cons,List.all_nil,belowBox,mcs,gcs,z8,z2]
  rfl
 rw [rf173_eq,X_range]
 unfold xrange
 have hn:(noRange as173 && noRange bd173)=true:=rfl
 have he:evalO (E173 l w) (.tmp 18)=some (.fn (.func 233) [] [.vptr (sl 3 vel l),.vptr (.int .i64 w)]):=rfl
 have hl:∀ m d,(G173 m d).length=4:=fun _ _=>rfl
 have hap:G173 m d++[.loop ⟨E173 l w,[19,20],as173,bd173,none⟩]=H173 l w m d none []:=rfl
 have hg:getBox (H173 l w m1 d1 none t) 4=some (.loop ⟨E173 l w,[19,20],as173,bd173,none⟩):=rfl
 have ht:(H173 l w m1 d1 none t).take 4=G173 m1 d1:=rfl
 simp only [hn,cond_true,he,hl,List.nil_append,List.cons_append,hap,h1,hg,ht,hb]
end
def a173_1:ACode:=pcL c173.body
def a173_2:ACode:=pcL (pcR c173.body)
def a173_3:ACode:=pcL (pcL (pcR (pcR c173.body)))
def a173_4:ACode:=pcR (pcR (pcR c173.body))
noncomputable def f173 (l:Option (List GEl)) (w:Int):Option (GMat × GRat):=cond (decide ((l.getD []).length≤5)) (foldM w (l.getD []) (⟨1,0,0,0,0,0,1,0⟩,⟨1,0⟩)) none
theorem W205 {l:Option (List GEl)} {w:Int}:callIso pr (X pr) 205 [sl 3 vel l,.int .i64 w]=some (.fn (.func 233) [] [.vptr (sl 3 vel l),.vptr (.int .i64 w)],false):=by
 have this:∃ hh,callFn pr (X pr) 205 [sl 3 vel l,.int .i64 w] []=some (.fn (.func 233) [] [.vptr (sl 3 vel l),.vptr (.int .i64 w)],false,hh):=by
  rw [callFn_at (show pr.fns 205=some c205 from rfl) (by simp)]
  simp only [go_sem,seval,c205]
  exact ⟨_,rfl⟩
 obtain ⟨hh,this⟩:=this
 have hb:Abs.below 0 (sl 3 vel l)=true:=by simp only [go_sem,seval]
 have hp:Abs.below 0 (.fn (.func 233) [] [.vptr (sl 3 vel l),.vptr (.int .i64 w)])=true:=by
  show (true && (Abs.below 0 (sl 3 vel l) && true))=true
  rw [hb]; rfl
 exact callIso_of rfl this (by first | rfl | simp only [go_sem,seval]) (by first | exact hp | simp only [go_sem,seval])
theorem W173 {l:Option (List GEl)} {w:Int} {r} (h:f173 l w=some r):callIso pr (X pr) 173 [sl 3 vel l,.int .i64 w]=some (.tup [.agg [.int .i64 r.1.m0,.int .i64 r.1.m1,.int .i64 r.1.m2,.int .i64 r.1.m3,.int .i64 r.1.m4,.int .i64 r.1.m5,.int .i64 r.1.m6,.int .i64 r.1.m7],.agg [.int .i64 r.2.num,.int .i64 r.2.den]],false):=by
 unfold f173 at h
 rcases cond_split h with ⟨h1,k⟩ | ⟨h1,k⟩
 ·obtain ⟨m,d⟩:=r
  have hx:=range173 (by simpa using h1) k
  have g205:=W205 (l:=l) (w:=w)
  have this:∃ hh,callFn pr (X pr) 173 [sl 3 vel l,.int .i64 w] []=some (.tup [.agg [.int .i64 m.m0,.int .i64 m.m1,.int .i64 m.m2,.int .i64 m.m3,.int .i64 m.m4,.int .i64 m.m5,.int .i64 m.m6,.int .i64 m.m7],.agg [.int .i64 d.num,.int .i64 d.den]],false,hh):=by
   rw [callFn_at (show pr.fns 173=some ⟨34,.seq a173_1 (.seq a173_2 (.seq (.seq a173_3 (.block 0 rf173)) a173_4)),[.cell 4 true 8,.cell 5 true 2]⟩ from rfl) (by simp)]
   simp only [E173,G173,mcs,gcs,z8,z2] at hx
   simp only [go_sem,seval,a173_1,a173_2,a173_3,a173_4,pcL,pcR,c173,g205,hx]
   exact ⟨_,rfl⟩
  obtain ⟨hh,this⟩:=this
  exact callIso_of rfl this (by first | rfl | simp only [go_sem,seval]) (by first | rfl | simp only [go_sem,seval])
 ·cases k
end Go.Z
