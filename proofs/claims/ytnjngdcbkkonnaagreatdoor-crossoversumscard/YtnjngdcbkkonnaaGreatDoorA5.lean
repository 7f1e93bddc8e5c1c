/-
  Chapter 4: levels and sums: functions that mirror the runs, and the runs (printed by walk.py).
-/
import Derived.Test.YtnjngdcbkkonnaaGreatDoorA4
set_option linter.unusedVariables false
set_option linter.unusedSimpArgs false
set_option maxRecDepth 100000
set_option maxHeartbeats 4000000
namespace Go.Z
open Go Go.Abs
noncomputable def f136 (a0:GRat) (a1:GRat):Option (GQuad × Int):=
 cond (decide (a1.num=0) && decide (a1.den=0))
  (some (⟨0,0,0,0⟩,17))
  (some (⟨a0.num,a0.den,a1.num,a1.den⟩,0))
theorem W136 {a0:GRat} {a1:GRat} {r} (h:f136 a0 a1=some r):callIso pr (X pr) 136 [.agg [.int .i64 a0.num,.int .i64 a0.den],.agg [.int .i64 a1.num,.int .i64 a1.den]]=some (.tup [.agg [.int .i64 r.1.a,.int .i64 r.1.b,.int .i64 r.1.c,.int .i64 r.1.d],.int .i64 r.2],false):=by
 unfold f136 at h
 rcases cond_split h with ⟨h1,h⟩ | ⟨h1,h⟩
 ·have hr:(⟨0,0,0,0⟩,17)=r:=Option.some.inj h
  subst hr
  have this:∃ hh,callFn pr (X pr) 136 [.agg [.int .i64 a0.num,.int .i64 a0.den],.agg [.int .i64 a1.num,.int .i64 a1.den]] []=some (.tup [.agg [.int .i64 0,.int .i64 0,.int .i64 0,.int .i64 0],.int .i64 17],false,hh):=by
   rw [callFn_at (show pr.fns 136=some c136 from rfl) (by simp)]
   simp only [go_sem,seval,c136,h1]
   exact ⟨_,rfl⟩
  obtain ⟨hh,this⟩:=this
  exact callIso_of rfl this (by first | rfl | simp only [go_sem,seval]) (by first | rfl | simp only [go_sem,seval])
 ·have hr:(⟨a0.num,a0.den,a1.num,a1.den⟩,0)=r:=Option.some.inj h
  subst hr
  have this:∃ hh,callFn pr (X pr) 136 [.agg [.int .i64 a0.num,.int .i64 a0.den],.agg [.int .i64 a1.num,.int .i64 a1.den]] []=some (.tup [.agg [.int .i64 a0.num,.int .i64 a0.den,.int .i64 a1.num,.int .i64 a1.den],.int .i64 0],false,hh):=by
   rw [callFn_at (show pr.fns 136=some c136 from rfl) (by simp)]
   simp only [go_sem,seval,c136,h1]
   exact ⟨_,rfl⟩
  obtain ⟨hh,this⟩:=this
  exact callIso_of rfl this (by first | rfl | simp only [go_sem,seval]) (by first | rfl | simp only [go_sem,seval])
noncomputable def f135 (a0:GMat) (a1:GRat) (c0_0:Int) (c0_1:Int) (c0_2:Int) (c0_3:Int):Option ((GQuad × Int)):=
 obind (f136 a1 (⟨a0.m0,a0.m1⟩)) fun v1=>
 some (v1.1,v1.2)
theorem W135 {a0:GMat} {a1:GRat} {c0_0:Int} {c0_1:Int} {c0_2:Int} {c0_3:Int} {r} (h:f135 a0 a1 c0_0 c0_1 c0_2 c0_3=some r):callFn pr (X pr) 135 [.agg [.int .i64 a0.m0,.int .i64 a0.m1,.int .i64 a0.m2,.int .i64 a0.m3,.int .i64 a0.m4,.int .i64 a0.m5,.int .i64 a0.m6,.int .i64 a0.m7],.agg [.int .i64 a1.num,.int .i64 a1.den]] [.cells [(.int .i64 c0_0,false),(.int .i64 c0_1,false),(.int .i64 c0_2,false),(.int .i64 c0_3,false)]]=some (.tup [.agg [.int .i64 r.1.a,.int .i64 r.1.b,.int .i64 r.1.c,.int .i64 r.1.d],.int .i64 r.2],false,[.cells [(.int .i64 c0_0,false),(.int .i64 c0_1,false),(.int .i64 c0_2,false),(.int .i64 c0_3,false)],.cells [(.int .i64 r.1.a,false),(.int .i64 r.1.b,false),(.int .i64 r.1.c,false),(.int .i64 r.1.d,false)]]):=by
 unfold f135 at h
 obtain ⟨v1,h2,h⟩:=obind_some h
 have wh2:callIso pr (X pr) 136 [.agg [.int .i64 a1.num,.int .i64 a1.den],.agg [.int .i64 a0.m0,.int .i64 a0.m1]]=some (.tup [.agg [.int .i64 v1.1.a,.int .i64 v1.1.b,.int .i64 v1.1.c,.int .i64 v1.1.d],.int .i64 v1.2],false):=W136 h2
 have hr:(v1.1,v1.2)=r:=Option.some.inj h
 subst hr
 rw [callFn_at (show pr.fns 135=some c135 from rfl) (by simp)]
 simp only [go_sem,seval,c135,wh2] <;> rfl
noncomputable def f132 (a0:GMat) (a1:GRat) (c0_0:Int) (c0_1:Int):Option ((GRat × Int)):=
 cond (decide (a0.m0=0) && decide (a0.m1=0))
  (some (⟨0,0⟩,17))
  (obind (f175 a1) fun v2=>
  obind (f175 (⟨a0.m0,a0.m1⟩)) fun v4=>
  obind (f174 v2 v4) fun v6=>
  some (v6,0))
theorem W132 {a0:GMat} {a1:GRat} {c0_0:Int} {c0_1:Int} {r} (h:f132 a0 a1 c0_0 c0_1=some r):callFn pr (X pr) 132 [.agg [.int .i64 a0.m0,.int .i64 a0.m1,.int .i64 a0.m2,.int .i64 a0.m3,.int .i64 a0.m4,.int .i64 a0.m5,.int .i64 a0.m6,.int .i64 a0.m7],.agg [.int .i64 a1.num,.int .i64 a1.den]] [.cells [(.int .i64 c0_0,false),(.int .i64 c0_1,false)]]=some (.tup [.agg [.int .i64 r.1.num,.int .i64 r.1.den],.int .i64 r.2],false,[.cells [(.int .i64 c0_0,false),(.int .i64 c0_1,false)],.cells [(.int .i64 r.1.num,false),(.int .i64 r.1.den,false)]]):=by
 unfold f132 at h
 rcases cond_split h with ⟨h1,h⟩ | ⟨h1,h⟩
 ·have hr:(⟨0,0⟩,17)=r:=Option.some.inj h
  subst hr
  rw [callFn_at (show pr.fns 132=some c132 from rfl) (by simp)]
  simp only [go_sem,seval,c132,h1] <;> rfl
 ·obtain ⟨v2,h3,h⟩:=obind_some h
  have wh3:callIso pr (X pr) 175 [.agg [.int .i64 a1.num,.int .i64 a1.den]]=some (.int .i64 v2,false):=W175 h3
  obtain ⟨v4,h5,h⟩:=obind_some h
  have wh5:callIso pr (X pr) 175 [.agg [.int .i64 a0.m0,.int .i64 a0.m1]]=some (.int .i64 v4,false):=W175 h5
  obtain ⟨v6,h7,h⟩:=obind_some h
  have wh7:callIso pr (X pr) 174 [.int .i64 v2,.int .i64 v4]=some (.agg [.int .i64 v6.num,.int .i64 v6.den],false):=W174 h7
  have hr:(v6,0)=r:=Option.some.inj h
  subst hr
  rw [callFn_at (show pr.fns 132=some c132 from rfl) (by simp)]
  simp only [go_sem,seval,c132,h1,wh3,wh5,wh7] <;> rfl
noncomputable def f134 (a0:Option (List GEl)) (a1:Int):Option (GQuad × Int):=
 obind (f158 a0) fun v1=>
 obind (f172 a1) fun v3=>
 obind (f171 (some [v1,v3])) fun v5=>
 cond (decide (v5=0))
  (obind (f173 a0 a1) fun v8=>
  obind (f135 v8.1 v8.2 0 0 0 0) fun v10=>
  some (v10.1,v10.2))
  (some (⟨0,0,0,0⟩,v5))
theorem W134 {a0:Option (List GEl)} {a1:Int} {r} (h:f134 a0 a1=some r):callIso pr (X pr) 134 [sl 3 vel a0,.int .i64 a1,.fn (.func 135) [] []]=some (.tup [.agg [.int .i64 r.1.a,.int .i64 r.1.b,.int .i64 r.1.c,.int .i64 r.1.d],.int .i64 r.2],false):=by
 unfold f134 at h
 obtain ⟨v1,h2,h⟩:=obind_some h
 have wh2:callIso pr (X pr) 158 [sl 3 vel a0]=some (.int .i64 v1,false):=W158 h2
 obtain ⟨v3,h4,h⟩:=obind_some h
 have wh4:callIso pr (X pr) 172 [.int .i64 a1]=some (.int .i64 v3,false):=W172 h4
 obtain ⟨v5,h6,h⟩:=obind_some h
 have wh6:callIso pr (X pr) 171 [.list false 1 [.int .i64 v1,.int .i64 v3]]=some (.int .i64 v5,false):=W171 h6
 rcases cond_split h with ⟨h7,h⟩ | ⟨h7,h⟩
 ·obtain ⟨v8,h9,h⟩:=obind_some h
  have wh9:callIso pr (X pr) 173 [sl 3 vel a0,.int .i64 a1]=some (.tup [.agg [.int .i64 v8.1.m0,.int .i64 v8.1.m1,.int .i64 v8.1.m2,.int .i64 v8.1.m3,.int .i64 v8.1.m4,.int .i64 v8.1.m5,.int .i64 v8.1.m6,.int .i64 v8.1.m7],.agg [.int .i64 v8.2.num,.int .i64 v8.2.den]],false):=W173 h9
  obtain ⟨v10,h11,h⟩:=obind_some h
  have wh11:callFn pr (X pr) 135 [.agg [.int .i64 v8.1.m0,.int .i64 v8.1.m1,.int .i64 v8.1.m2,.int .i64 v8.1.m3,.int .i64 v8.1.m4,.int .i64 v8.1.m5,.int .i64 v8.1.m6,.int .i64 v8.1.m7],.agg [.int .i64 v8.2.num,.int .i64 v8.2.den]] [.cells [(.int .i64 0,false),(.int .i64 0,false),(.int .i64 0,false),(.int .i64 0,false)]]=some (.tup [.agg [.int .i64 v10.1.a,.int .i64 v10.1.b,.int .i64 v10.1.c,.int .i64 v10.1.d],.int .i64 v10.2],false,[.cells [(.int .i64 0,false),(.int .i64 0,false),(.int .i64 0,false),(.int .i64 0,false)],.cells [(.int .i64 v10.1.a,false),(.int .i64 v10.1.b,false),(.int .i64 v10.1.c,false),(.int .i64 v10.1.d,false)]]):=W135 h11
  have hr:(v10.1,v10.2)=r:=Option.some.inj h
  subst hr
  have this:∃ hh,callFn pr (X pr) 134 [sl 3 vel a0,.int .i64 a1,.fn (.func 135) [] []] []=some (.tup [.agg [.int .i64 v10.1.a,.int .i64 v10.1.b,.int .i64 v10.1.c,.int .i64 v10.1.d],.int .i64 v10.2],false,hh):=by
   rw [callFn_at (show pr.fns 134=some c134 from rfl) (by simp)]
   simp only [go_sem,seval,c134,wh2,wh4,wh6,h7,wh9,wh11]
   exact ⟨_,rfl⟩
  obtain ⟨hh,this⟩:=this
  exact callIso_of rfl this (by first | rfl | simp only [go_sem,seval]) (by first | rfl | simp only [go_sem,seval])
 ·have hr:(⟨0,0,0,0⟩,v5)=r:=Option.some.inj h
  subst hr
  have this:∃ hh,callFn pr (X pr) 134 [sl 3 vel a0,.int .i64 a1,.fn (.func 135) [] []] []=some (.tup [.agg [.int .i64 0,.int .i64 0,.int .i64 0,.int .i64 0],.int .i64 v5],false,hh):=by
   rw [callFn_at (show pr.fns 134=some c134 from rfl) (by simp)]
   simp only [go_sem,seval,c134,wh2,wh4,wh6,h7]
   exact ⟨_,rfl⟩
  obtain ⟨hh,this⟩:=this
  exact callIso_of rfl this (by first | rfl | simp only [go_sem,seval]) (by first | rfl | simp only [go_sem,seval])
noncomputable def f131 (a0:Option (List GEl)) (a1:Int):Option (GRat × Int):=
 obind (f158 a0) fun v1=>
 obind (f172 a1) fun v3=>
 obind (f171 (some [v1,v3])) fun v5=>
 cond (decide (v5=0))
  (obind (f173 a0 a1) fun v8=>
  obind (f132 v8.1 v8.2 0 0) fun v10=>
  some (v10.1,v10.2))
  (some (⟨0,0⟩,v5))
theorem W131 {a0:Option (List GEl)} {a1:Int} {r} (h:f131 a0 a1=some r):callIso pr (X pr) 131 [sl 3 vel a0,.int .i64 a1,.fn (.func 132) [] []]=some (.tup [.agg [.int .i64 r.1.num,.int .i64 r.1.den],.int .i64 r.2],false):=by
 unfold f131 at h
 obtain ⟨v1,h2,h⟩:=obind_some h
 have wh2:callIso pr (X pr) 158 [sl 3 vel a0]=some (.int .i64 v1,false):=W158 h2
 obtain ⟨v3,h4,h⟩:=obind_some h
 have wh4:callIso pr (X pr) 172 [.int .i64 a1]=some (.int .i64 v3,false):=W172 h4
 obtain ⟨v5,h6,h⟩:=obind_some h
 have wh6:callIso pr (X pr) 171 [.list false 1 [.int .i64 v1,.int .i64 v3]]=some (.int .i64 v5,false):=W171 h6
 rcases cond_split h with ⟨h7,h⟩ | ⟨h7,h⟩
 ·obtain ⟨v8,h9,h⟩:=obind_some h
  have wh9:callIso pr (X pr) 173 [sl 3 vel a0,.int .i64 a1]=some (.tup [.agg [.int .i64 v8.1.m0,.int .i64 v8.1.m1,.int .i64 v8.1.m2,.int .i64 v8.1.m3,.int .i64 v8.1.m4,.int .i64 v8.1.m5,.int .i64 v8.1.m6,.int .i64 v8.1.m7],.agg [.int .i64 v8.2.num,.int .i64 v8.2.den]],false):=W173 h9
  obtain ⟨v10,h11,h⟩:=obind_some h
  have wh11:callFn pr (X pr) 132 [.agg [.int .i64 v8.1.m0,.int .i64 v8.1.m1,.int .i64 v8.1.m2,.int .i64 v8.1.m3,.int .i64 v8.1.m4,.int .i64 v8.1.m5,.int .i64 v8.1.m6,.int .i64 v8.1.m7],.agg [.int .i64 v8.2.num,.int .i64 v8.2.den]] [.cells [(.int .i64 0,false),(.int .i64 0,false)]]=some (.tup [.agg [.int .i64 v10.1.num,.int .i64 v10.1.den],.int .i64 v10.2],false,[.cells [(.int .i64 0,false),(.int .i64 0,false)],.cells [(.int .i64 v10.1.num,false),(.int .i64 v10.1.den,false)]]):=W132 h11
  have hr:(v10.1,v10.2)=r:=Option.some.inj h
  subst hr
  have this:∃ hh,callFn pr (X pr) 131 [sl 3 vel a0,.int .i64 a1,.fn (.func 132) [] []] []=some (.tup [.agg [.int .i64 v10.1.num,.int .i64 v10.1.den],.int .i64 v10.2],false,hh):=by
   rw [callFn_at (show pr.fns 131=some c131 from rfl) (by simp)]
   simp only [go_sem,seval,c131,wh2,wh4,wh6,h7,wh9,wh11]
   exact ⟨_,rfl⟩
  obtain ⟨hh,this⟩:=this
  exact callIso_of rfl this (by first | rfl | simp only [go_sem,seval]) (by first | rfl | simp only [go_sem,seval])
 ·have hr:(⟨0,0⟩,v5)=r:=Option.some.inj h
  subst hr
  have this:∃ hh,callFn pr (X pr) 131 [sl 3 vel a0,.int .i64 a1,.fn (.func 132) [] []] []=some (.tup [.agg [.int .i64 0,.int .i64 0],.int .i64 v5],false,hh):=by
   rw [callFn_at (show pr.fns 131=some c131 from rfl) (by simp)]
   simp only [go_sem,seval,c131,wh2,wh4,wh6,h7]
   exact ⟨_,rfl⟩
  obtain ⟨hh,this⟩:=this
  exact callIso_of rfl this (by first | rfl | simp only [go_sem,seval]) (by first | rfl | simp only [go_sem,seval])
noncomputable def f60 (a0:Option (List GEl)) (a1:Int):Option (GQuad × Int):=
 obind (f134 a0 a1) fun v1=>
 some (v1.1,v1.2)
theorem W60 {a0:Option (List GEl)} {a1:Int} {r} (h:f60 a0 a1=some r):callIso pr (X pr) 60 [sl 3 vel a0,.int .i64 a1]=some (.tup [.agg [.int .i64 r.1.a,.int .i64 r.1.b,.int .i64 r.1.c,.int .i64 r.1.d],.int .i64 r.2],false):=by
 unfold f60 at h
 obtain ⟨v1,h2,h⟩:=obind_some h
 have wh2:callIso pr (X pr) 134 [sl 3 vel a0,.int .i64 a1,.fn (.func 135) [] []]=some (.tup [.agg [.int .i64 v1.1.a,.int .i64 v1.1.b,.int .i64 v1.1.c,.int .i64 v1.1.d],.int .i64 v1.2],false):=W134 h2
 have hr:(v1.1,v1.2)=r:=Option.some.inj h
 subst hr
 have this:∃ hh,callFn pr (X pr) 60 [sl 3 vel a0,.int .i64 a1] []=some (.tup [.agg [.int .i64 v1.1.a,.int .i64 v1.1.b,.int .i64 v1.1.c,.int .i64 v1.1.d],.int .i64 v1.2],false,hh):=by
  rw [callFn_at (show pr.fns 60=some c60 from rfl) (by simp)]
  simp only [go_sem,seval,c60,wh2]
  exact ⟨_,rfl⟩
 obtain ⟨hh,this⟩:=this
 exact callIso_of rfl this (by first | rfl | simp only [go_sem,seval]) (by first | rfl | simp only [go_sem,seval])
noncomputable def f57 (a0:Option (List GEl)) (a1:Int):Option (GRat × Int):=
 obind (f131 a0 a1) fun v1=>
 some (v1.1,v1.2)
theorem W57 {a0:Option (List GEl)} {a1:Int} {r} (h:f57 a0 a1=some r):callIso pr (X pr) 57 [sl 3 vel a0,.int .i64 a1]=some (.tup [.agg [.int .i64 r.1.num,.int .i64 r.1.den],.int .i64 r.2],false):=by
 unfold f57 at h
 obtain ⟨v1,h2,h⟩:=obind_some h
 have wh2:callIso pr (X pr) 131 [sl 3 vel a0,.int .i64 a1,.fn (.func 132) [] []]=some (.tup [.agg [.int .i64 v1.1.num,.int .i64 v1.1.den],.int .i64 v1.2],false):=W131 h2
 have hr:(v1.1,v1.2)=r:=Option.some.inj h
 subst hr
 have this:∃ hh,callFn pr (X pr) 57 [sl 3 vel a0,.int .i64 a1] []=some (.tup [.agg [.int .i64 v1.1.num,.int .i64 v1.1.den],.int .i64 v1.2],false,hh):=by
  rw [callFn_at (show pr.fns 57=some c57 from rfl) (by simp)]
  simp only [go_sem,seval,c57,wh2]
  exact ⟨_,rfl⟩
 obtain ⟨hh,this⟩:=this
 exact callIso_of rfl this (by first | rfl | simp only [go_sem,seval]) (by first | rfl | simp only [go_sem,seval])
noncomputable def f165 (a0:Int) (a1:Int):Option (Int × Int):=
 obind (shrO .u64 a0 32) fun v1=>
 obind (shrO .u64 a1 32) fun v3=>
 obind (shrO .u64 (wrapF .u64 ((bitF .and .u64 a0 4294967295) * (bitF .and .u64 a1 4294967295))) 32) fun v5=>
 obind (shrO .u64 (wrapF .u64 ((wrapF .u64 (v1 * (bitF .and .u64 a1 4294967295))) + v5)) 32) fun v7=>
 obind (shrO .u64 (wrapF .u64 ((bitF .and .u64 (wrapF .u64 ((wrapF .u64 (v1 * (bitF .and .u64 a1 4294967295))) + v5)) 4294967295) + (wrapF .u64 ((bitF .and .u64 a0 4294967295) * v3)))) 32) fun v9=>
 some (wrapF .u64 ((wrapF .u64 ((wrapF .u64 (v1 * v3)) + v7)) + v9),wrapF .u64 (a0 * a1))
theorem W165 {a0:Int} {a1:Int} {r} (h:f165 a0 a1=some r):callIso pr (X pr) 165 [.int .u64 a0,.int .u64 a1]=some (.tup [.int .u64 r.1,.int .u64 r.2],false):=by
 unfold f165 at h
 obtain ⟨v1,h2,h⟩:=obind_some h
 obtain ⟨v3,h4,h⟩:=obind_some h
 obtain ⟨v5,h6,h⟩:=obind_some h
 obtain ⟨v7,h8,h⟩:=obind_some h
 obtain ⟨v9,h10,h⟩:=obind_some h
 have hr:(wrapF .u64 ((wrapF .u64 ((wrapF .u64 (v1 * v3)) + v7)) + v9),wrapF .u64 (a0 * a1))=r:=Option.some.inj h
 subst hr
 have this:∃ hh,callFn pr (X pr) 165 [.int .u64 a0,.int .u64 a1] []=some (.tup [.int .u64 (wrapF .u64 ((wrapF .u64 ((wrapF .u64 (v1 * v3)) + v7)) + v9)),.int .u64 (wrapF .u64 (a0 * a1))],false,hh):=by
  rw [callFn_at (show pr.fns 165=some c165 from rfl) (by simp)]
  simp only [go_sem,seval,c165,b_shr_O h2,b_shr_O h4,b_shr_O h6,b_shr_O h8,b_shr_O h10]
  exact ⟨_,rfl⟩
 obtain ⟨hh,this⟩:=this
 exact callIso_of rfl this (by first | rfl | simp only [go_sem,seval]) (by first | rfl | simp only [go_sem,seval])
noncomputable def f127 (a0:GRat) (a1:GRat):Option Bool:=
 obind (f165 (wrapF .u64 a0.num) (wrapF .u64 a1.den)) fun v1=>
 obind (f165 (wrapF .u64 a1.num) (wrapF .u64 a0.den)) fun v3=>
 cond (decide (v3.1 < v1.1))
  (some true)
  (cond (decide (v1.1=v3.1))
   (some (decide (v3.2 < v1.2)))
   (some false))
theorem W127 {a0:GRat} {a1:GRat} {r} (h:f127 a0 a1=some r):callIso pr (X pr) 127 [.agg [.int .i64 a0.num,.int .i64 a0.den],.agg [.int .i64 a1.num,.int .i64 a1.den]]=some (.bool r,false):=by
 unfold f127 at h
 obtain ⟨v1,h2,h⟩:=obind_some h
 have wh2:callIso pr (X pr) 165 [.int .u64 (wrapF .u64 a0.num),.int .u64 (wrapF .u64 a1.den)]=some (.tup [.int .u64 v1.1,.int .u64 v1.2],false):=W165 h2
 obtain ⟨v3,h4,h⟩:=obind_some h
 have wh4:callIso pr (X pr) 165 [.int .u64 (wrapF .u64 a1.num),.int .u64 (wrapF .u64 a0.den)]=some (.tup [.int .u64 v3.1,.int .u64 v3.2],false):=W165 h4
 rcases cond_split h with ⟨h5,h⟩ | ⟨h5,h⟩
 ·have hr:true=r:=Option.some.inj h
  subst hr
  have this:∃ hh,callFn pr (X pr) 127 [.agg [.int .i64 a0.num,.int .i64 a0.den],.agg [.int .i64 a1.num,.int .i64 a1.den]] []=some (.bool true,false,hh):=by
   rw [callFn_at (show pr.fns 127=some c127 from rfl) (by simp)]
   simp only [go_sem,seval,c127,wh2,wh4,h5]
   exact ⟨_,rfl⟩
  obtain ⟨hh,this⟩:=this
  exact callIso_of rfl this (by first | rfl | simp only [go_sem,seval]) (by first | rfl | simp only [go_sem,seval])
 ·rcases cond_split h with ⟨h6,h⟩ | ⟨h6,h⟩
  ·have hr:decide (v3.2 < v1.2)=r:=Option.some.inj h
   subst hr
   have this:∃ hh,callFn pr (X pr) 127 [.agg [.int .i64 a0.num,.int .i64 a0.den],.agg [.int .i64 a1.num,.int .i64 a1.den]] []=some (.bool (decide (v3.2 < v1.2)),false,hh):=by
    rw [callFn_at (show pr.fns 127=some c127 from rfl) (by simp)]
    simp only [go_sem,seval,c127,wh2,wh4,h5,h6]
    exact ⟨_,rfl⟩
   obtain ⟨hh,this⟩:=this
   exact callIso_of rfl this (by first | rfl | simp only [go_sem,seval]) (by first | rfl | simp only [go_sem,seval])
  ·have hr:false=r:=Option.some.inj h
   subst hr
   have this:∃ hh,callFn pr (X pr) 127 [.agg [.int .i64 a0.num,.int .i64 a0.den],.agg [.int .i64 a1.num,.int .i64 a1.den]] []=some (.bool false,false,hh):=by
    rw [callFn_at (show pr.fns 127=some c127 from rfl) (by simp)]
    simp only [go_sem,seval,c127,wh2,wh4,h5,h6]
    exact ⟨_,rfl⟩
   obtain ⟨hh,this⟩:=this
   exact callIso_of rfl this (by first | rfl | simp only [go_sem,seval]) (by first | rfl | simp only [go_sem,seval])
noncomputable def f121 (a0:Option (List GEl)):Option Int:=
 obind (f158 a0) fun v1=>
 obind (f106 (decide (2 < ((a0.getD []).length:Int))) 5) fun v3=>
 obind (f105 (some [v1,v3])) fun v5=>
 some v5
theorem W121 {a0:Option (List GEl)} {r} (h:f121 a0=some r):callIso pr (X pr) 121 [sl 3 vel a0]=some (.int .i64 r,false):=by
 unfold f121 at h
 obtain ⟨v1,h2,h⟩:=obind_some h
 have wh2:callIso pr (X pr) 158 [sl 3 vel a0]=some (.int .i64 v1,false):=W158 h2
 obtain ⟨v3,h4,h⟩:=obind_some h
 have wh4:callIso pr (X pr) 106 [.bool (decide (2 < ((a0.getD []).length:Int))),.int .i64 5]=some (.int .i64 v3,false):=W106 h4
 obtain ⟨v5,h6,h⟩:=obind_some h
 have wh6:callIso pr (X pr) 105 [.list false 1 [.int .i64 v1,.int .i64 v3]]=some (.int .i64 v5,false):=W105 h6
 have hr:v5=r:=Option.some.inj h
 subst hr
 have this:∃ hh,callFn pr (X pr) 121 [sl 3 vel a0] []=some (.int .i64 v5,false,hh):=by
  rw [callFn_at (show pr.fns 121=some c121 from rfl) (by simp)]
  simp only [go_sem,seval,c121,wh2,wh4,wh6]
  exact ⟨_,rfl⟩
 obtain ⟨hh,this⟩:=this
 exact callIso_of rfl this (by first | rfl | simp only [go_sem,seval]) (by first | rfl | simp only [go_sem,seval])
noncomputable def f45 (a0:Option (List GEl)) (a1:Option (List GEl)) (a2:Int) (a3:Bool):Option (GQuad × Int):=
 obind (f121 a0) fun v1=>
 obind (f121 a1) fun v3=>
 obind (f122 a2) fun v5=>
 obind (f105 (some [v1,v3,v5])) fun v7=>
 cond (decide (v7=0))
  (obind (f60 a0 a2) fun v10=>
  cond (decide (v10.2=0))
   (obind (f60 a1 a2) fun v13=>
   cond (decide (v13.2=0))
    (cond a3
     (obind (f124 (⟨v10.1.a,v10.1.b⟩) (⟨v13.1.c,v13.1.d⟩)) fun v17=>
     obind (f124 (⟨v13.1.a,v13.1.b⟩) (⟨v10.1.c,v10.1.d⟩)) fun v19=>
     obind (f124 (⟨(-1),0⟩) v19) fun v21=>
     obind (f123 v17 v21) fun v23=>
     obind (f124 (⟨v10.1.c,v10.1.d⟩) (⟨v13.1.c,v13.1.d⟩)) fun v25=>
     some (⟨v23.num,v23.den,v25.num,v25.den⟩,0))
     (obind (f124 (⟨v10.1.a,v10.1.b⟩) (⟨v13.1.c,v13.1.d⟩)) fun v27=>
     obind (f124 (⟨v13.1.a,v13.1.b⟩) (⟨v10.1.c,v10.1.d⟩)) fun v29=>
     obind (f124 (⟨1,0⟩) v29) fun v31=>
     obind (f123 v27 v31) fun v33=>
     obind (f124 (⟨v10.1.c,v10.1.d⟩) (⟨v13.1.c,v13.1.d⟩)) fun v35=>
     some (⟨v33.num,v33.den,v35.num,v35.den⟩,0)))
    (some (⟨0,0,0,0⟩,v13.2)))
   (some (⟨0,0,0,0⟩,v10.2)))
  (some (⟨0,0,0,0⟩,v7))
theorem W45 {a0:Option (List GEl)} {a1:Option (List GEl)} {a2:Int} {a3:Bool} {r} (h:f45 a0 a1 a2 a3=some r):callIso pr (X pr) 45 [sl 3 vel a0,sl 3 vel a1,.int .i64 a2,.bool a3]=some (.tup [.agg [.int .i64 r.1.a,.int .i64 r.1.b,.int .i64 r.1.c,.int .i64 r.1.d],.int .i64 r.2],false):=by
 unfold f45 at h
 obtain ⟨v1,h2,h⟩:=obind_some h
 have wh2:callIso pr (X pr) 121 [sl 3 vel a0]=some (.int .i64 v1,false):=W121 h2
 obtain ⟨v3,h4,h⟩:=obind_some h
 have wh4:callIso pr (X pr) 121 [sl 3 vel a1]=some (.int .i64 v3,false):=W121 h4
 obtain ⟨v5,h6,h⟩:=obind_some h
 have wh6:callIso pr (X pr) 122 [.int .i64 a2]=some (.int .i64 v5,false):=W122 h6
 obtain ⟨v7,h8,h⟩:=obind_some h
 have wh8:callIso pr (X pr) 105 [.list false 1 [.int .i64 v1,.int .i64 v3,.int .i64 v5]]=some (.int .i64 v7,false):=W105 h8
 rcases cond_split h with ⟨h9,h⟩ | ⟨h9,h⟩
 ·obtain ⟨v10,h11,h⟩:=obind_some h
  have wh11:callIso pr (X pr) 60 [sl 3 vel a0,.int .i64 a2]=some (.tup [.agg [.int .i64 v10.1.a,.int .i64 v10.1.b,.int .i64 v10.1.c,.int .i64 v10.1.d],.int .i64 v10.2],false):=W60 h11
  rcases cond_split h with ⟨h12,h⟩ | ⟨h12,h⟩
  ·obtain ⟨v13,h14,h⟩:=obind_some h
   have wh14:callIso pr (X pr) 60 [sl 3 vel a1,.int .i64 a2]=some (.tup [.agg [.int .i64 v13.1.a,.int .i64 v13.1.b,.int .i64 v13.1.c,.int .i64 v13.1.d],.int .i64 v13.2],false):=W60 h14
   rcases cond_split h with ⟨h15,h⟩ | ⟨h15,h⟩
   ·rcases cond_split h with ⟨h16,h⟩ | ⟨h16,h⟩
    ·obtain ⟨v17,h18,h⟩:=obind_some h
     have wh18:callIso pr (X pr) 124 [.agg [.int .i64 v10.1.a,.int .i64 v10.1.b],.agg [.int .i64 v13.1.c,.int .i64 v13.1.d]]=some (.agg [.int .i64 v17.num,.int .i64 v17.den],false):=W124 h18
     obtain ⟨v19,h20,h⟩:=obind_some h
     have wh20:callIso pr (X pr) 124 [.agg [.int .i64 v13.1.a,.int .i64 v13.1.b],.agg [.int .i64 v10.1.c,.int .i64 v10.1.d]]=some (.agg [.int .i64 v19.num,.int .i64 v19.den],false):=W124 h20
     obtain ⟨v21,h22,h⟩:=obind_some h
     have wh22:callIso pr (X pr) 124 [.agg [.int .i64 (-1),.int .i64 0],.agg [.int .i64 v19.num,.int .i64 v19.den]]=some (.agg [.int .i64 v21.num,.int .i64 v21.den],false):=W124 h22
     obtain ⟨v23,h24,h⟩:=obind_some h
     have wh24:callIso pr (X pr) 123 [.agg [.int .i64 v17.num,.int .i64 v17.den],.agg [.int .i64 v21.num,.int .i64 v21.den]]=some (.agg [.int .i64 v23.num,.int .i64 v23.den],false):=W123 h24
     obtain ⟨v25,h26,h⟩:=obind_some h
     have wh26:callIso pr (X pr) 124 [.agg [.int .i64 v10.1.c,.int .i64 v10.1.d],.agg [.int .i64 v13.1.c,.int .i64 v13.1.d]]=some (.agg [.int .i64 v25.num,.int .i64 v25.den],false):=W124 h26
     have hr:(⟨v23.num,v23.den,v25.num,v25.den⟩,0)=r:=Option.some.inj h
     subst hr
     have this:∃ hh,callFn pr (X pr) 45 [sl 3 vel a0,sl 3 vel a1,.int .i64 a2,.bool a3] []=some (.tup [.agg [.int .i64 v23.num,.int .i64 v23.den,.int .i64 v25.num,.int .i64 v25.den],.int .i64 0],false,hh):=by
      rw [callFn_at (show pr.fns 45=some c45 from rfl) (by simp)]
      simp only [go_sem,seval,c45,wh2,wh4,wh6,wh8,h9,wh11,h12,wh14,h15,h16,wh18,wh20,wh22,wh24,wh26]
      exact ⟨_,rfl⟩
     obtain ⟨hh,this⟩:=this
     exact callIso_of rfl this (by first | rfl | simp only [go_sem,seval]) (by first | rfl | simp only [go_sem,seval])
    ·obtain ⟨v27,h28,h⟩:=obind_some h
     have wh28:callIso pr (X pr) 124 [.agg [.int .i64 v10.1.a,.int .i64 v10.1.b],.agg [.int .i64 v13.1.c,.int .i64 v13.1.d]]=some (.agg [.int .i64 v27.num,.int .i64 v27.den],false):=W124 h28
     obtain ⟨v29,h30,h⟩:=obind_some h
     have wh30:callIso pr (X pr) 124 [.agg [.int .i64 v13.1.a,.int .i64 v13.1.b],.agg [.int .i64 v10.1.c,.int .i64 v10.1.d]]=some (.agg [.int .i64 v29.num,.int .i64 v29.den],false):=W124 h30
     obtain ⟨v31,h32,h⟩:=obind_some h
     have wh32:callIso pr (X pr) 124 [.agg [.int .i64 1,.int .i64 0],.agg [.int .i64 v29.num,.int .i64 v29.den]]=some (.agg [.int .i64 v31.num,.int .i64 v31.den],false):=W124 h32
     obtain ⟨v33,h34,h⟩:=obind_some h
     have wh34:callIso pr (X pr) 123 [.agg [.int .i64 v27.num,.int .i64 v27.den],.agg [.int .i64 v31.num,.int .i64 v31.den]]=some (.agg [.int .i64 v33.num,.int .i64 v33.den],false):=W123 h34
     obtain ⟨v35,h36,h⟩:=obind_some h
     have wh36:callIso pr (X pr) 124 [.agg [.int .i64 v10.1.c,.int .i64 v10.1.d],.agg [.int .i64 v13.1.c,.int .i64 v13.1.d]]=some (.agg [.int .i64 v35.num,.int .i64 v35.den],false):=W124 h36
     have hr:(⟨v33.num,v33.den,v35.num,v35.den⟩,0)=r:=Option.some.inj h
     subst hr
     have this:∃ hh,callFn pr (X pr) 45 [sl 3 vel a0,sl 3 vel a1,.int .i64 a2,.bool a3] []=some (.tup [.agg [.int .i64 v33.num,.int .i64 v33.den,.int .i64 v35.num,.int .i64 v35.den],.int .i64 0],false,hh):=by
      rw [callFn_at (show pr.fns 45=some c45 from rfl) (by simp)]
      simp only [go_sem,seval,c45,wh2,wh4,wh6,wh8,h9,wh11,h12,wh14,h15,h16,wh28,wh30,wh32,wh34,wh36]
      exact ⟨_,rfl⟩
     obtain ⟨hh,this⟩:=this
     exact callIso_of rfl this (by first | rfl | simp only [go_sem,seval]) (by first | rfl | simp only [go_sem,seval])
   ·have hr:(⟨0,0,0,0⟩,v13.2)=r:=Option.some.inj h
    subst hr
    have this:∃ hh,callFn pr (X pr) 45 [sl 3 vel a0,sl 3 vel a1,.int .i64 a2,.bool a3] []=some (.tup [.agg [.int .i64 0,.int .i64 0,.int .i64 0,.int .i64 0],.int .i64 v13.2],false,hh):=by
     rw [callFn_at (show pr.fns 45=some c45 from rfl) (by simp)]
     simp only [go_sem,seval,c45,wh2,wh4,wh6,wh8,h9,wh11,h12,wh14,h15]
     exact ⟨_,rfl⟩
    obtain ⟨hh,this⟩:=this
    exact callIso_of rfl this (by first | rfl | simp only [go_sem,seval]) (by first | rfl | simp only [go_sem,seval])
  ·have hr:(⟨0,0,0,0⟩,v10.2)=r:=Option.some.inj h
   subst hr
   have this:∃ hh,callFn pr (X pr) 45 [sl 3 vel a0,sl 3 vel a1,.int .i64 a2,.bool a3] []=some (.tup [.agg [.int .i64 0,.int .i64 0,.int .i64 0,.int .i64 0],.int .i64 v10.2],false,hh):=by
    rw [callFn_at (show pr.fns 45=some c45 from rfl) (by simp)]
    simp only [go_sem,seval,c45,wh2,wh4,wh6,wh8,h9,wh11,h12]
    exact ⟨_,rfl⟩
   obtain ⟨hh,this⟩:=this
   exact callIso_of rfl this (by first | rfl | simp only [go_sem,seval]) (by first | rfl | simp only [go_sem,seval])
 ·have hr:(⟨0,0,0,0⟩,v7)=r:=Option.some.inj h
  subst hr
  have this:∃ hh,callFn pr (X pr) 45 [sl 3 vel a0,sl 3 vel a1,.int .i64 a2,.bool a3] []=some (.tup [.agg [.int .i64 0,.int .i64 0,.int .i64 0,.int .i64 0],.int .i64 v7],false,hh):=by
   rw [callFn_at (show pr.fns 45=some c45 from rfl) (by simp)]
   simp only [go_sem,seval,c45,wh2,wh4,wh6,wh8,h9]
   exact ⟨_,rfl⟩
  obtain ⟨hh,this⟩:=this
  exact callIso_of rfl this (by first | rfl | simp only [go_sem,seval]) (by first | rfl | simp only [go_sem,seval])
noncomputable def f47 (a0:Option (List GEl)) (a1:Option (List GEl)) (a2:Int) (a3:Bool):Option (GRat × Int):=
 obind (f45 a0 a1 a2 a3) fun v1=>
 cond (decide (v1.2=0))
  (obind (f126 (⟨v1.1.a,v1.1.b⟩)) fun v4=>
  obind (f126 (⟨v1.1.c,v1.1.d⟩)) fun v6=>
  obind (f125 v4 v6) fun v8=>
  some (v8,0))
  (some (⟨0,0⟩,v1.2))
theorem W47 {a0:Option (List GEl)} {a1:Option (List GEl)} {a2:Int} {a3:Bool} {r} (h:f47 a0 a1 a2 a3=some r):callIso pr (X pr) 47 [sl 3 vel a0,sl 3 vel a1,.int .i64 a2,.bool a3]=some (.tup [.agg [.int .i64 r.1.num,.int .i64 r.1.den],.int .i64 r.2],false):=by
 unfold f47 at h
 obtain ⟨v1,h2,h⟩:=obind_some h
 have wh2:callIso pr (X pr) 45 [sl 3 vel a0,sl 3 vel a1,.int .i64 a2,.bool a3]=some (.tup [.agg [.int .i64 v1.1.a,.int .i64 v1.1.b,.int .i64 v1.1.c,.int .i64 v1.1.d],.int .i64 v1.2],false):=W45 h2
 rcases cond_split h with ⟨h3,h⟩ | ⟨h3,h⟩
 ·obtain ⟨v4,h5,h⟩:=obind_some h
  have wh5:callIso pr (X pr) 126 [.agg [.int .i64 v1.1.a,.int .i64 v1.1.b]]=some (.int .i64 v4,false):=W126 h5
  obtain ⟨v6,h7,h⟩:=obind_some h
  have wh7:callIso pr (X pr) 126 [.agg [.int .i64 v1.1.c,.int .i64 v1.1.d]]=some (.int .i64 v6,false):=W126 h7
  obtain ⟨v8,h9,h⟩:=obind_some h
  have wh9:callIso pr (X pr) 125 [.int .i64 v4,.int .i64 v6]=some (.agg [.int .i64 v8.num,.int .i64 v8.den],false):=W125 h9
  have hr:(v8,0)=r:=Option.some.inj h
  subst hr
  have this:∃ hh,callFn pr (X pr) 47 [sl 3 vel a0,sl 3 vel a1,.int .i64 a2,.bool a3] []=some (.tup [.agg [.int .i64 v8.num,.int .i64 v8.den],.int .i64 0],false,hh):=by
   rw [callFn_at (show pr.fns 47=some c47 from rfl) (by simp)]
   simp only [go_sem,seval,c47,wh2,h3,wh5,wh7,wh9]
   exact ⟨_,rfl⟩
  obtain ⟨hh,this⟩:=this
  exact callIso_of rfl this (by first | rfl | simp only [go_sem,seval]) (by first | rfl | simp only [go_sem,seval])
 ·have hr:(⟨0,0⟩,v1.2)=r:=Option.some.inj h
  subst hr
  have this:∃ hh,callFn pr (X pr) 47 [sl 3 vel a0,sl 3 vel a1,.int .i64 a2,.bool a3] []=some (.tup [.agg [.int .i64 0,.int .i64 0],.int .i64 v1.2],false,hh):=by
   rw [callFn_at (show pr.fns 47=some c47 from rfl) (by simp)]
   simp only [go_sem,seval,c47,wh2,h3]
   exact ⟨_,rfl⟩
  obtain ⟨hh,this⟩:=this
  exact callIso_of rfl this (by first | rfl | simp only [go_sem,seval]) (by first | rfl | simp only [go_sem,seval])
noncomputable def s48_0 (a0:Option (List GEl)) (a1:Option (List GEl)) (a3:Int) (s0:Int × Int):Option ((Int × Int) ⊕ ((Int × Int × Int × Int × Int) ⊕ (Int × Int))):=
 cond (decide (s0.2≤a3))
  (obind (f57 a0 s0.2) fun v38=>
  obind (f57 a1 s0.2) fun v40=>
  obind (f105 (some [v38.2,v40.2])) fun v42=>
  cond (decide (v42=0))
   (cond (decide (s0.1=0))
    (obind (f127 v38.1 v40.1) fun v46=>
    cond v46
     (some (.inl (s0.1,wrapF .i64 (s0.2 + 1))))
     (some (.inl (s0.2,wrapF .i64 (s0.2 + 1)))))
    (some (.inl (s0.1,wrapF .i64 (s0.2 + 1)))))
   (some (.inr (.inl (v42,v38.1.num,v38.1.den,v40.1.num,v40.1.den)))))
  (some (.inr (.inr (s0.1,s0.2))))
def St48_0 (a0:Option (List GEl)) (a1:Option (List GEl)) (a3:Int) (s0:Int × Int):ASt:=⟨[(0,sl 3 vel a0,false),(1,sl 3 vel a1,false),(3,.int .i64 a3,false),(11,.int .i64 s0.1,false),(12,.int .i64 s0.2,false)],[]⟩
def Ex48_0 (a0:Option (List GEl)) (a1:Option (List GEl)) (a3:Int):(Int × Int × Int × Int × Int) ⊕ (Int × Int)→AExit × ASt
 | .inl d=>(.ret,⟨[(8,.int .i64 0,false),(9,.int .i64 d.1,false)],[.cells [(.int .i64 d.2.1,false),(.int .i64 d.2.2.1,false)],.cells [(.int .i64 d.2.2.2.1,false),(.int .i64 d.2.2.2.2,false)]]⟩)
 | .inr d=>(.exit 0,⟨[(0,sl 3 vel a0,false),(1,sl 3 vel a1,false),(3,.int .i64 a3,false),(11,.int .i64 d.1,false),(12,.int .i64 d.2,false),(37,.bool false,false)],[]⟩)
theorem b48_0 (a0:Option (List GEl)) (a1:Option (List GEl)) (a3:Int) (s0:Int × Int) (r) (h:s48_0 a0 a1 a3 s0=some r):stepO pr c48_0 (St48_0 a0 a1 a3) (Ex48_0 a0 a1 a3) s0 r:=by
 unfold s48_0 at h
 rcases cond_split h with ⟨h37,h⟩ | ⟨h37,h⟩
 ·obtain ⟨v38,h39,h⟩:=obind_some h
  have wh39:callIso pr (X pr) 57 [sl 3 vel a0,.int .i64 s0.2]=some (.tup [.agg [.int .i64 v38.1.num,.int .i64 v38.1.den],.int .i64 v38.2],false):=W57 h39
  obtain ⟨v40,h41,h⟩:=obind_some h
  have wh41:callIso pr (X pr) 57 [sl 3 vel a1,.int .i64 s0.2]=some (.tup [.agg [.int .i64 v40.1.num,.int .i64 v40.1.den],.int .i64 v40.2],false):=W57 h41
  obtain ⟨v42,h43,h⟩:=obind_some h
  have wh43:callIso pr (X pr) 105 [.list false 1 [.int .i64 v38.2,.int .i64 v40.2]]=some (.int .i64 v42,false):=W105 h43
  rcases cond_split h with ⟨h44,h⟩ | ⟨h44,h⟩
  ·rcases cond_split h with ⟨h45,h⟩ | ⟨h45,h⟩
   ·obtain ⟨v46,h47,h⟩:=obind_some h
    have wh47:callIso pr (X pr) 127 [.agg [.int .i64 v38.1.num,.int .i64 v38.1.den],.agg [.int .i64 v40.1.num,.int .i64 v40.1.den]]=some (.bool v46,false):=W127 h47
    rcases cond_split h with ⟨h48,h⟩ | ⟨h48,h⟩
    ·cases h
     exact stepO_in (st':=⟨[(0,sl 3 vel a0,false),(1,sl 3 vel a1,false),(3,.int .i64 a3,false),(11,.int .i64 s0.1,false),(12,.int .i64 (wrapF .i64 (s0.2 + 1)),false)],[]++[.cells [(.int .i64 v38.1.num,false),(.int .i64 v38.1.den,false)],.cells [(.int .i64 v40.1.num,false),(.int .i64 v40.1.den,false)]]⟩) (by simp only [go_sem,seval,c48_0,St48_0,h37,wh39,wh41,wh43,h44,h45,wh47,h48] <;> rfl) (gc_over rfl rfl (by first | simp only [go_sem,seval,St48_0] | rfl) (by first | simp only [go_sem,seval,St48_0] | rfl))
    ·cases h
     exact stepO_in (st':=⟨[(0,sl 3 vel a0,false),(1,sl 3 vel a1,false),(3,.int .i64 a3,false),(11,.int .i64 s0.2,false),(12,.int .i64 (wrapF .i64 (s0.2 + 1)),false)],[]++[.cells [(.int .i64 v38.1.num,false),(.int .i64 v38.1.den,false)],.cells [(.int .i64 v40.1.num,false),(.int .i64 v40.1.den,false)]]⟩) (by simp only [go_sem,seval,c48_0,St48_0,h37,wh39,wh41,wh43,h44,h45,wh47,h48] <;> rfl) (gc_over rfl rfl (by first | simp only [go_sem,seval,St48_0] | rfl) (by first | simp only [go_sem,seval,St48_0] | rfl))
   ·cases h
    exact stepO_in (st':=⟨[(0,sl 3 vel a0,false),(1,sl 3 vel a1,false),(3,.int .i64 a3,false),(11,.int .i64 s0.1,false),(12,.int .i64 (wrapF .i64 (s0.2 + 1)),false)],[]++[.cells [(.int .i64 v38.1.num,false),(.int .i64 v38.1.den,false)],.cells [(.int .i64 v40.1.num,false),(.int .i64 v40.1.den,false)]]⟩) (by simp only [go_sem,seval,c48_0,St48_0,h37,wh39,wh41,wh43,h44,h45] <;> rfl) (gc_over rfl rfl (by first | simp only [go_sem,seval,St48_0] | rfl) (by first | simp only [go_sem,seval,St48_0] | rfl))
  ·cases h
   exact stepO_out (by simp only [go_sem,seval,c48_0,St48_0,h37,wh39,wh41,wh43,h44,Ex48_0] <;> rfl)
 ·cases h
  exact stepO_out (by simp only [go_sem,seval,c48_0,St48_0,h37,Ex48_0] <;> rfl)
theorem l48_0 (a0:Option (List GEl)) (a1:Option (List GEl)) (a3:Int) {s0:Int × Int} {d} (h:itO (s48_0 a0 a1 a3) s0=some d):X pr (.loop c48_0) (St48_0 a0 a1 a3 s0)=some (Ex48_0 a0 a1 a3 d):=X_itO (b48_0 a0 a1 a3) (fun d=>by rcases d with d|d <;> (intro hh; cases hh)) h
noncomputable def f48 (a0:Option (List GEl)) (a1:Option (List GEl)) (a2:Int) (a3:Int):Option (Int × Int):=
 obind (f121 a0) fun v1=>
 obind (f121 a1) fun v3=>
 obind (f122 a2) fun v5=>
 obind (f122 a3) fun v7=>
 obind (f106 (decide (a3 < a2)) 11) fun v9=>
 obind (f105 (some [v1,v3,v5,v7,v9])) fun v11=>
 cond (decide (v11=0))
  (obind (itO (s48_0 a0 a1 a3) (0,a2)) fun d49=>match d49 with
   | .inl d51=>
    some (0,d51.1)
   | .inr d52=>
    obind (f106 (decide (d52.1=0)) 7) fun v53=>
    some (d52.1,v53))
  (some (0,v11))
theorem W48 {a0:Option (List GEl)} {a1:Option (List GEl)} {a2:Int} {a3:Int} {r} (h:f48 a0 a1 a2 a3=some r):callIso pr (X pr) 48 [sl 3 vel a0,sl 3 vel a1,.int .i64 a2,.int .i64 a3]=some (.tup [.int .i64 r.1,.int .i64 r.2],false):=by
 unfold f48 at h
 obtain ⟨v1,h2,h⟩:=obind_some h
 have wh2:callIso pr (X pr) 121 [sl 3 vel a0]=some (.int .i64 v1,false):=W121 h2
 obtain ⟨v3,h4,h⟩:=obind_some h
 have wh4:callIso pr (X pr) 121 [sl 3 vel a1]=some (.int .i64 v3,false):=W121 h4
 obtain ⟨v5,h6,h⟩:=obind_some h
 have wh6:callIso pr (X pr) 122 [.int .i64 a2]=some (.int .i64 v5,false):=W122 h6
 obtain ⟨v7,h8,h⟩:=obind_some h
 have wh8:callIso pr (X pr) 122 [.int .i64 a3]=some (.int .i64 v7,false):=W122 h8
 obtain ⟨v9,h10,h⟩:=obind_some h
 have wh10:callIso pr (X pr) 106 [.bool (decide (a3 < a2)),.int .i64 11]=some (.int .i64 v9,false):=W106 h10
 obtain ⟨v11,h12,h⟩:=obind_some h
 have wh12:callIso pr (X pr) 105 [.list false 1 [.int .i64 v1,.int .i64 v3,.int .i64 v5,.int .i64 v7,.int .i64 v9]]=some (.int .i64 v11,false):=W105 h12
 rcases cond_split h with ⟨h13,h⟩ | ⟨h13,h⟩
 ·obtain ⟨d49,h50,h⟩:=obind_some h
  rcases d49 with d51 | d52
  ·have wh50:X pr (.loop c48_0) ⟨[(0,sl 3 vel a0,false),(1,sl 3 vel a1,false),(3,.int .i64 a3,false),(11,.int .i64 0,false),(12,.int .i64 a2,false)],[]⟩=some (.ret,⟨[(8,.int .i64 0,false),(9,.int .i64 d51.1,false)],[.cells [(.int .i64 d51.2.1,false),(.int .i64 d51.2.2.1,false)],.cells [(.int .i64 d51.2.2.2.1,false),(.int .i64 d51.2.2.2.2,false)]]⟩):=l48_0 a0 a1 a3 h50
   have hr:(0,d51.1)=r:=Option.some.inj h
   subst hr
   have this:∃ hh,callFn pr (X pr) 48 [sl 3 vel a0,sl 3 vel a1,.int .i64 a2,.int .i64 a3] []=some (.tup [.int .i64 0,.int .i64 d51.1],false,hh):=by
    rw [callFn_at (show pr.fns 48=some c48 from rfl) (by simp)]
    simp only [go_sem,seval,c48,wh2,wh4,wh6,wh8,wh10,wh12,h13,wh50]
    exact ⟨_,rfl⟩
   obtain ⟨hh,this⟩:=this
   exact callIso_of rfl this (by first | rfl | simp only [go_sem,seval]) (by first | rfl | simp only [go_sem,seval])
  ·have wh50:X pr (.loop c48_0) ⟨[(0,sl 3 vel a0,false),(1,sl 3 vel a1,false),(3,.int .i64 a3,false),(11,.int .i64 0,false),(12,.int .i64 a2,false)],[]⟩=some (.exit 0,⟨[(0,sl 3 vel a0,false),(1,sl 3 vel a1,false),(3,.int .i64 a3,false),(11,.int .i64 d52.1,false),(12,.int .i64 d52.2,false),(37,.bool false,false)],[]⟩):=l48_0 a0 a1 a3 h50
   obtain ⟨v53,h54,h⟩:=obind_some h
   have wh54:callIso pr (X pr) 106 [.bool (decide (d52.1=0)),.int .i64 7]=some (.int .i64 v53,false):=W106 h54
   have hr:(d52.1,v53)=r:=Option.some.inj h
   subst hr
   have this:∃ hh,callFn pr (X pr) 48 [sl 3 vel a0,sl 3 vel a1,.int .i64 a2,.int .i64 a3] []=some (.tup [.int .i64 d52.1,.int .i64 v53],false,hh):=by
    rw [callFn_at (show pr.fns 48=some c48 from rfl) (by simp)]
    simp only [go_sem,seval,c48,wh2,wh4,wh6,wh8,wh10,wh12,h13,wh50,wh54]
    exact ⟨_,rfl⟩
   obtain ⟨hh,this⟩:=this
   exact callIso_of rfl this (by first | rfl | simp only [go_sem,seval]) (by first | rfl | simp only [go_sem,seval])
 ·have hr:(0,v11)=r:=Option.some.inj h
  subst hr
  have this:∃ hh,callFn pr (X pr) 48 [sl 3 vel a0,sl 3 vel a1,.int .i64 a2,.int .i64 a3] []=some (.tup [.int .i64 0,.int .i64 v11],false,hh):=by
   rw [callFn_at (show pr.fns 48=some c48 from rfl) (by simp)]
   simp only [go_sem,seval,c48,wh2,wh4,wh6,wh8,wh10,wh12,h13]
   exact ⟨_,rfl⟩
  obtain ⟨hh,this⟩:=this
  exact callIso_of rfl this (by first | rfl | simp only [go_sem,seval]) (by first | rfl | simp only [go_sem,seval])
noncomputable def s129_0 (a0:Option (List GEl)) (a1:Int) (s0:Int × Int × Int × Int × Int × Int × Int × Int × Int):Option ((Int × Int × Int × Int × Int × Int × Int × Int × Int) ⊕ ((Int × Int × Int × Int × Int × Int × Int × Int × Int))):=
 cond (decide (s0.1 < ((a0.getD []).length:Int)))
  (obind (idxO (a0.getD []) s0.1) fun v24=>
  obind (f167 v24 a1) fun v26=>
  obind (f170 v24.kind v26) fun v28=>
  obind (f169 (⟨s0.2.1,s0.2.2.1,s0.2.2.2.1,s0.2.2.2.2.1,s0.2.2.2.2.2.1,s0.2.2.2.2.2.2.1,s0.2.2.2.2.2.2.2.1,s0.2.2.2.2.2.2.2.2⟩) v28) fun v30=>
  some (.inl (wrapF .i64 (s0.1 + 1),v30.m0,v30.m1,v30.m2,v30.m3,v30.m4,v30.m5,v30.m6,v30.m7)))
  (some (.inr (s0.1,s0.2.1,s0.2.2.1,s0.2.2.2.1,s0.2.2.2.2.1,s0.2.2.2.2.2.1,s0.2.2.2.2.2.2.1,s0.2.2.2.2.2.2.2.1,s0.2.2.2.2.2.2.2.2)))
def St129_0 (a0:Option (List GEl)) (a1:Int) (s0:Int × Int × Int × Int × Int × Int × Int × Int × Int):ASt:=⟨[(0,sl 3 vel a0,false),(1,.int .i64 a1,false),(4,.ptr 0 0,false),(5,.ptr 1 0,false),(6,.int .i64 s0.1,false)],[.cells [(.int .i64 0,false),(.int .i64 0,false),(.int .i64 0,false),(.int .i64 0,false),(.int .i64 0,false),(.int .i64 0,false),(.int .i64 0,false),(.int .i64 0,false)],.cells [(.int .i64 s0.2.1,false),(.int .i64 s0.2.2.1,false),(.int .i64 s0.2.2.2.1,false),(.int .i64 s0.2.2.2.2.1,false),(.int .i64 s0.2.2.2.2.2.1,false),(.int .i64 s0.2.2.2.2.2.2.1,false),(.int .i64 s0.2.2.2.2.2.2.2.1,false),(.int .i64 s0.2.2.2.2.2.2.2.2,false)]]⟩
def Ex129_0 (a0:Option (List GEl)) (a1:Int) (d:(Int × Int × Int × Int × Int × Int × Int × Int × Int)):AExit × ASt:=(.exit 0,⟨[(0,sl 3 vel a0,false),(1,.int .i64 a1,false),(4,.ptr 0 0,false),(5,.ptr 1 0,false),(6,.int .i64 d.1,false),(15,.bool false,false)],[.cells [(.int .i64 0,false),(.int .i64 0,false),(.int .i64 0,false),(.int .i64 0,false),(.int .i64 0,false),(.int .i64 0,false),(.int .i64 0,false),(.int .i64 0,false)],.cells [(.int .i64 d.2.1,false),(.int .i64 d.2.2.1,false),(.int .i64 d.2.2.2.1,false),(.int .i64 d.2.2.2.2.1,false),(.int .i64 d.2.2.2.2.2.1,false),(.int .i64 d.2.2.2.2.2.2.1,false),(.int .i64 d.2.2.2.2.2.2.2.1,false),(.int .i64 d.2.2.2.2.2.2.2.2,false)]]⟩)
theorem b129_0 (a0:Option (List GEl)) (a1:Int) (s0:Int × Int × Int × Int × Int × Int × Int × Int × Int) (r) (h:s129_0 a0 a1 s0=some r):stepO pr c129_0 (St129_0 a0 a1) (Ex129_0 a0 a1) s0 r:=by
 unfold s129_0 at h
 rcases cond_split h with ⟨h23,h⟩ | ⟨h23,h⟩
 ·obtain ⟨v24,h25,h⟩:=obind_some h
  obtain ⟨v26,h27,h⟩:=obind_some h
  have wh27:callIso pr (X pr) 167 [.agg [.str v24.kind,.int .i64 v24.a,.int .i64 v24.b],.int .i64 a1]=some (.agg [.int .i64 v26.num,.int .i64 v26.den],false):=W167 h27
  obtain ⟨v28,h29,h⟩:=obind_some h
  have wh29:callIso pr (X pr) 170 [.str v24.kind,.agg [.int .i64 v26.num,.int .i64 v26.den]]=some (.agg [.int .i64 v28.m0,.int .i64 v28.m1,.int .i64 v28.m2,.int .i64 v28.m3,.int .i64 v28.m4,.int .i64 v28.m5,.int .i64 v28.m6,.int .i64 v28.m7],false):=W170 h29
  obtain ⟨v30,h31,h⟩:=obind_some h
  have wh31:callIso pr (X pr) 169 [.agg [.int .i64 s0.2.1,.int .i64 s0.2.2.1,.int .i64 s0.2.2.2.1,.int .i64 s0.2.2.2.2.1,.int .i64 s0.2.2.2.2.2.1,.int .i64 s0.2.2.2.2.2.2.1,.int .i64 s0.2.2.2.2.2.2.2.1,.int .i64 s0.2.2.2.2.2.2.2.2],.agg [.int .i64 v28.m0,.int .i64 v28.m1,.int .i64 v28.m2,.int .i64 v28.m3,.int .i64 v28.m4,.int .i64 v28.m5,.int .i64 v28.m6,.int .i64 v28.m7]]=some (.agg [.int .i64 v30.m0,.int .i64 v30.m1,.int .i64 v30.m2,.int .i64 v30.m3,.int .i64 v30.m4,.int .i64 v30.m5,.int .i64 v30.m6,.int .i64 v30.m7],false):=W169 h31
  cases h
  exact stepO_in (st':=⟨[(0,sl 3 vel a0,false),(1,.int .i64 a1,false),(4,.ptr 0 0,false),(5,.ptr 1 0,false),(6,.int .i64 (wrapF .i64 (s0.1 + 1)),false)],[.cells [(.int .i64 0,false),(.int .i64 0,false),(.int .i64 0,false),(.int .i64 0,false),(.int .i64 0,false),(.int .i64 0,false),(.int .i64 0,false),(.int .i64 0,false)],.cells [(.int .i64 v30.m0,false),(.int .i64 v30.m1,false),(.int .i64 v30.m2,false),(.int .i64 v30.m3,false),(.int .i64 v30.m4,false),(.int .i64 v30.m5,false),(.int .i64 v30.m6,false),(.int .i64 v30.m7,false)]]⟩) (by simp only [go_sem,seval,c129_0,St129_0,h23,idxR_O h25,wh27,wh29,wh31] <;> rfl) (gc_same (Nat.le_refl _))
 ·cases h
  exact stepO_out (by simp only [go_sem,seval,c129_0,St129_0,h23,Ex129_0] <;> rfl)
theorem l129_0 (a0:Option (List GEl)) (a1:Int) {s0:Int × Int × Int × Int × Int × Int × Int × Int × Int} {d} (h:itO (s129_0 a0 a1) s0=some d):X pr (.loop c129_0) (St129_0 a0 a1 s0)=some (Ex129_0 a0 a1 d):=X_itO (b129_0 a0 a1) (fun d hh=>by cases hh) h
noncomputable def f129 (a0:Option (List GEl)) (a1:Int):Option GMat:=
 obind (f166) fun v1=>
 obind (f168) fun v3=>
 obind (itO (s129_0 a0 a1) (0,v1.num,v1.den,v3.num,v3.den,v3.num,v3.den,v1.num,v1.den)) fun d32=>
 some (⟨d32.2.1,d32.2.2.1,d32.2.2.2.1,d32.2.2.2.2.1,d32.2.2.2.2.2.1,d32.2.2.2.2.2.2.1,d32.2.2.2.2.2.2.2.1,d32.2.2.2.2.2.2.2.2⟩)
theorem W129 {a0:Option (List GEl)} {a1:Int} {r} (h:f129 a0 a1=some r):callIso pr (X pr) 129 [sl 3 vel a0,.int .i64 a1]=some (.agg [.int .i64 r.m0,.int .i64 r.m1,.int .i64 r.m2,.int .i64 r.m3,.int .i64 r.m4,.int .i64 r.m5,.int .i64 r.m6,.int .i64 r.m7],false):=by
 unfold f129 at h
 obtain ⟨v1,h2,h⟩:=obind_some h
 have wh2:callIso pr (X pr) 166 []=some (.agg [.int .i64 v1.num,.int .i64 v1.den],false):=W166 h2
 obtain ⟨v3,h4,h⟩:=obind_some h
 have wh4:callIso pr (X pr) 168 []=some (.agg [.int .i64 v3.num,.int .i64 v3.den],false):=W168 h4
 obtain ⟨d32,h33,h⟩:=obind_some h
 have wh33:X pr (.loop c129_0) ⟨[(0,sl 3 vel a0,false),(1,.int .i64 a1,false),(4,.ptr 0 0,false),(5,.ptr 1 0,false),(6,.int .i64 0,false)],[.cells [(.int .i64 0,false),(.int .i64 0,false),(.int .i64 0,false),(.int .i64 0,false),(.int .i64 0,false),(.int .i64 0,false),(.int .i64 0,false),(.int .i64 0,false)],.cells [(.int .i64 v1.num,false),(.int .i64 v1.den,false),(.int .i64 v3.num,false),(.int .i64 v3.den,false),(.int .i64 v3.num,false),(.int .i64 v3.den,false),(.int .i64 v1.num,false),(.int .i64 v1.den,false)]]⟩=some (.exit 0,⟨[(0,sl 3 vel a0,false),(1,.int .i64 a1,false),(4,.ptr 0 0,false),(5,.ptr 1 0,false),(6,.int .i64 d32.1,false),(15,.bool false,false)],[.cells [(.int .i64 0,false),(.int .i64 0,false),(.int .i64 0,false),(.int .i64 0,false),(.int .i64 0,false),(.int .i64 0,false),(.int .i64 0,false),(.int .i64 0,false)],.cells [(.int .i64 d32.2.1,false),(.int .i64 d32.2.2.1,false),(.int .i64 d32.2.2.2.1,false),(.int .i64 d32.2.2.2.2.1,false),(.int .i64 d32.2.2.2.2.2.1,false),(.int .i64 d32.2.2.2.2.2.2.1,false),(.int .i64 d32.2.2.2.2.2.2.2.1,false),(.int .i64 d32.2.2.2.2.2.2.2.2,false)]]⟩):=l129_0 a0 a1 h33
 have hr:⟨d32.2.1,d32.2.2.1,d32.2.2.2.1,d32.2.2.2.2.1,d32.2.2.2.2.2.1,d32.2.2.2.2.2.2.1,d32.2.2.2.2.2.2.2.1,d32.2.2.2.2.2.2.2.2⟩=r:=Option.some.inj h
 subst hr
 have this:∃ hh,callFn pr (X pr) 129 [sl 3 vel a0,.int .i64 a1] []=some (.agg [.int .i64 d32.2.1,.int .i64 d32.2.2.1,.int .i64 d32.2.2.2.1,.int .i64 d32.2.2.2.2.1,.int .i64 d32.2.2.2.2.2.1,.int .i64 d32.2.2.2.2.2.2.1,.int .i64 d32.2.2.2.2.2.2.2.1,.int .i64 d32.2.2.2.2.2.2.2.2],false,hh):=by
  rw [callFn_at (show pr.fns 129=some c129 from rfl) (by simp)]
  simp only [go_sem,seval,c129,wh2,wh4,wh33]
  exact ⟨_,rfl⟩
 obtain ⟨hh,this⟩:=this
 exact callIso_of rfl this (by first | rfl | simp only [go_sem,seval]) (by first | rfl | simp only [go_sem,seval])
noncomputable def s128_0 (a0:Option (List GEl)) (a1:Int) (s0:Int × Int × Int):Option ((Int × Int × Int) ⊕ ((Int × Int × Int))):=
 cond (decide (s0.1 < ((a0.getD []).length:Int)))
  (obind (idxO (a0.getD []) s0.1) fun v24=>
  obind (f55 v24.kind) fun v26=>
  cond v26
   (obind (f167 v24 a1) fun v29=>
   obind (f63 (⟨s0.2.1,s0.2.2⟩) v29) fun v31=>
   some (.inl (wrapF .i64 (s0.1 + 1),v31.num,v31.den)))
   (some (.inl (wrapF .i64 (s0.1 + 1),s0.2.1,s0.2.2))))
  (some (.inr (s0.1,s0.2.1,s0.2.2)))
def St128_0 (a0:Option (List GEl)) (a1:Int) (s0:Int × Int × Int):ASt:=⟨[(0,sl 3 vel a0,false),(1,.int .i64 a1,false),(4,.ptr 0 0,false),(5,.ptr 1 0,false),(6,.int .i64 s0.1,false)],[.cells [(.int .i64 0,false),(.int .i64 0,false)],.cells [(.int .i64 s0.2.1,false),(.int .i64 s0.2.2,false)]]⟩
def Ex128_0 (a0:Option (List GEl)) (a1:Int) (d:(Int × Int × Int)):AExit × ASt:=(.exit 0,⟨[(0,sl 3 vel a0,false),(1,.int .i64 a1,false),(4,.ptr 0 0,false),(5,.ptr 1 0,false),(6,.int .i64 d.1,false),(11,.bool false,false)],[.cells [(.int .i64 0,false),(.int .i64 0,false)],.cells [(.int .i64 d.2.1,false),(.int .i64 d.2.2,false)]]⟩)
theorem b128_0 (a0:Option (List GEl)) (a1:Int) (s0:Int × Int × Int) (r) (h:s128_0 a0 a1 s0=some r):stepO pr c128_0 (St128_0 a0 a1) (Ex128_0 a0 a1) s0 r:=by
 unfold s128_0 at h
 rcases cond_split h with ⟨h23,h⟩ | ⟨h23,h⟩
 ·obtain ⟨v24,h25,h⟩:=obind_some h
  obtain ⟨v26,h27,h⟩:=obind_some h
  have wh27:callIso pr (X pr) 55 [.str v24.kind]=some (.bool v26,false):=W55 h27
  rcases cond_split h with ⟨h28,h⟩ | ⟨h28,h⟩
  ·obtain ⟨v29,h30,h⟩:=obind_some h
   have wh30:callIso pr (X pr) 167 [.agg [.str v24.kind,.int .i64 v24.a,.int .i64 v24.b],.int .i64 a1]=some (.agg [.int .i64 v29.num,.int .i64 v29.den],false):=W167 h30
   obtain ⟨v31,h32,h⟩:=obind_some h
   have wh32:callIso pr (X pr) 63 [.agg [.int .i64 s0.2.1,.int .i64 s0.2.2],.agg [.int .i64 v29.num,.int .i64 v29.den]]=some (.agg [.int .i64 v31.num,.int .i64 v31.den],false):=W63 h32
   cases h
   exact stepO_in (st':=⟨[(0,sl 3 vel a0,false),(1,.int .i64 a1,false),(4,.ptr 0 0,false),(5,.ptr 1 0,false),(6,.int .i64 (wrapF .i64 (s0.1 + 1)),false)],[.cells [(.int .i64 0,false),(.int .i64 0,false)],.cells [(.int .i64 v31.num,false),(.int .i64 v31.den,false)]]⟩) (by simp only [go_sem,seval,c128_0,St128_0,h23,idxR_O h25,wh27,h28,wh30,wh32] <;> rfl) (gc_same (Nat.le_refl _))
  ·cases h
   exact stepO_in (st':=⟨[(0,sl 3 vel a0,false),(1,.int .i64 a1,false),(4,.ptr 0 0,false),(5,.ptr 1 0,false),(6,.int .i64 (wrapF .i64 (s0.1 + 1)),false)],[.cells [(.int .i64 0,false),(.int .i64 0,false)],.cells [(.int .i64 s0.2.1,false),(.int .i64 s0.2.2,false)]]⟩) (by simp only [go_sem,seval,c128_0,St128_0,h23,idxR_O h25,wh27,h28] <;> rfl) (gc_same (Nat.le_refl _))
 ·cases h
  exact stepO_out (by simp only [go_sem,seval,c128_0,St128_0,h23,Ex128_0] <;> rfl)
theorem l128_0 (a0:Option (List GEl)) (a1:Int) {s0:Int × Int × Int} {d} (h:itO (s128_0 a0 a1) s0=some d):X pr (.loop c128_0) (St128_0 a0 a1 s0)=some (Ex128_0 a0 a1 d):=X_itO (b128_0 a0 a1) (fun d hh=>by cases hh) h
noncomputable def f128 (a0:Option (List GEl)) (a1:Int):Option GRat:=
 obind (f166) fun v1=>
 obind (itO (s128_0 a0 a1) (0,v1.num,v1.den)) fun d33=>
 some (⟨d33.2.1,d33.2.2⟩)
theorem W128 {a0:Option (List GEl)} {a1:Int} {r} (h:f128 a0 a1=some r):callIso pr (X pr) 128 [sl 3 vel a0,.int .i64 a1]=some (.agg [.int .i64 r.num,.int .i64 r.den],false):=by
 unfold f128 at h
 obtain ⟨v1,h2,h⟩:=obind_some h
 have wh2:callIso pr (X pr) 166 []=some (.agg [.int .i64 v1.num,.int .i64 v1.den],false):=W166 h2
 obtain ⟨d33,h34,h⟩:=obind_some h
 have wh34:X pr (.loop c128_0) ⟨[(0,sl 3 vel a0,false),(1,.int .i64 a1,false),(4,.ptr 0 0,false),(5,.ptr 1 0,false),(6,.int .i64 0,false)],[.cells [(.int .i64 0,false),(.int .i64 0,false)],.cells [(.int .i64 v1.num,false),(.int .i64 v1.den,false)]]⟩=some (.exit 0,⟨[(0,sl 3 vel a0,false),(1,.int .i64 a1,false),(4,.ptr 0 0,false),(5,.ptr 1 0,false),(6,.int .i64 d33.1,false),(11,.bool false,false)],[.cells [(.int .i64 0,false),(.int .i64 0,false)],.cells [(.int .i64 d33.2.1,false),(.int .i64 d33.2.2,false)]]⟩):=l128_0 a0 a1 h34
 have hr:⟨d33.2.1,d33.2.2⟩=r:=Option.some.inj h
 subst hr
 have this:∃ hh,callFn pr (X pr) 128 [sl 3 vel a0,.int .i64 a1] []=some (.agg [.int .i64 d33.2.1,.int .i64 d33.2.2],false,hh):=by
  rw [callFn_at (show pr.fns 128=some c128 from rfl) (by simp)]
  simp only [go_sem,seval,c128,wh2,wh34]
  exact ⟨_,rfl⟩
 obtain ⟨hh,this⟩:=this
 exact callIso_of rfl this (by first | rfl | simp only [go_sem,seval]) (by first | rfl | simp only [go_sem,seval])
noncomputable def F58 (rec:GRat→GRat→Option Bool) (a0:GRat) (a1:GRat):Option Bool:=
 obind (quoO .i64 a0.num a0.den) fun v1=>
 obind (quoO .i64 a1.num a1.den) fun v3=>
 cond (decide (v1=v3))
  (obind (remO a0.num a0.den) fun v6=>
  obind (remO a1.num a1.den) fun v8=>
  cond (decide (v6=0))
   (some (!decide (v8=0)))
   (cond (decide (v8=0))
    (some false)
    (obind (rec (⟨a1.den,v8⟩) (⟨a0.den,v6⟩)) fun v12=>
    some v12)))
  (some (decide (v1 < v3)))
theorem WF58 {rec:GRat→GRat→Option Bool} (hrec:∀ {a0:GRat} {a1:GRat} {r},rec a0 a1=some r→callIso pr (X pr) 58 [.agg [.int .i64 a0.num,.int .i64 a0.den],.agg [.int .i64 a1.num,.int .i64 a1.den]]=some (.bool r,false)) {a0:GRat} {a1:GRat} {r} (h:F58 rec a0 a1=some r):callIso pr (X pr) 58 [.agg [.int .i64 a0.num,.int .i64 a0.den],.agg [.int .i64 a1.num,.int .i64 a1.den]]=some (.bool r,false):=by
 unfold F58 at h
 obtain ⟨v1,h2,h⟩:=obind_some h
 obtain ⟨v3,h4,h⟩:=obind_some h
 rcases cond_split h with ⟨h5,h⟩ | ⟨h5,h⟩
 ·obtain ⟨v6,h7,h⟩:=obind_some h
  obtain ⟨v8,h9,h⟩:=obind_some h
  rcases cond_split h with ⟨h10,h⟩ | ⟨h10,h⟩
  ·have hr:(!decide (v8=0))=r:=Option.some.inj h
   subst hr
   have this:∃ hh,callFn pr (X pr) 58 [.agg [.int .i64 a0.num,.int .i64 a0.den],.agg [.int .i64 a1.num,.int .i64 a1.den]] []=some (.bool (!decide (v8=0)),false,hh):=by
    rw [callFn_at (show pr.fns 58=some c58 from rfl) (by simp)]
    simp only [go_sem,seval,c58,b_quo_O h2,b_quo_O h4,h5,b_rem_O h7,b_rem_O h9,h10]
    exact ⟨_,rfl⟩
   obtain ⟨hh,this⟩:=this
   exact callIso_of rfl this (by first | rfl | simp only [go_sem,seval]) (by first | rfl | simp only [go_sem,seval])
  ·rcases cond_split h with ⟨h11,h⟩ | ⟨h11,h⟩
   ·have hr:false=r:=Option.some.inj h
    subst hr
    have this:∃ hh,callFn pr (X pr) 58 [.agg [.int .i64 a0.num,.int .i64 a0.den],.agg [.int .i64 a1.num,.int .i64 a1.den]] []=some (.bool false,false,hh):=by
     rw [callFn_at (show pr.fns 58=some c58 from rfl) (by simp)]
     simp only [go_sem,seval,c58,b_quo_O h2,b_quo_O h4,h5,b_rem_O h7,b_rem_O h9,h10,h11]
     exact ⟨_,rfl⟩
    obtain ⟨hh,this⟩:=this
    exact callIso_of rfl this (by first | rfl | simp only [go_sem,seval]) (by first | rfl | simp only [go_sem,seval])
   ·obtain ⟨v12,h13,h⟩:=obind_some h
    have wh13:callIso pr (X pr) 58 [.agg [.int .i64 a1.den,.int .i64 v8],.agg [.int .i64 a0.den,.int .i64 v6]]=some (.bool v12,false):=hrec h13
    have hr:v12=r:=Option.some.inj h
    subst hr
    have this:∃ hh,callFn pr (X pr) 58 [.agg [.int .i64 a0.num,.int .i64 a0.den],.agg [.int .i64 a1.num,.int .i64 a1.den]] []=some (.bool v12,false,hh):=by
     rw [callFn_at (show pr.fns 58=some c58 from rfl) (by simp)]
     simp only [go_sem,seval,c58,b_quo_O h2,b_quo_O h4,h5,b_rem_O h7,b_rem_O h9,h10,h11,wh13]
     exact ⟨_,rfl⟩
    obtain ⟨hh,this⟩:=this
    exact callIso_of rfl this (by first | rfl | simp only [go_sem,seval]) (by first | rfl | simp only [go_sem,seval])
 ·have hr:decide (v1 < v3)=r:=Option.some.inj h
  subst hr
  have this:∃ hh,callFn pr (X pr) 58 [.agg [.int .i64 a0.num,.int .i64 a0.den],.agg [.int .i64 a1.num,.int .i64 a1.den]] []=some (.bool (decide (v1 < v3)),false,hh):=by
   rw [callFn_at (show pr.fns 58=some c58 from rfl) (by simp)]
   simp only [go_sem,seval,c58,b_quo_O h2,b_quo_O h4,h5]
   exact ⟨_,rfl⟩
  obtain ⟨hh,this⟩:=this
  exact callIso_of rfl this (by first | rfl | simp only [go_sem,seval]) (by first | rfl | simp only [go_sem,seval])
noncomputable def f58:Nat→GRat→GRat→Option Bool
 | 0=>fun _ _=>none
 | n + 1=>F58 (f58 n)
theorem W58:∀ (n:Nat) {a0:GRat} {a1:GRat} {r} (h:f58 n a0 a1=some r),callIso pr (X pr) 58 [.agg [.int .i64 a0.num,.int .i64 a0.den],.agg [.int .i64 a1.num,.int .i64 a1.den]]=some (.bool r,false)
 | 0,_,_,_,h=>by cases h
 | n + 1,_,_,_,h=>WF58 (W58 n) h
noncomputable def f199 (a0:GRat) (a1:GRat):Option (GQuad × Int):=
 obind (f168) fun v1=>
 cond (decide (a1.num=v1.num) && decide (a1.den=v1.den))
  (some (⟨0,0,0,0⟩,17))
  (some (⟨a0.num,a0.den,a1.num,a1.den⟩,0))
theorem W199 {a0:GRat} {a1:GRat} {r} (h:f199 a0 a1=some r):callIso pr (X pr) 199 [.agg [.int .i64 a0.num,.int .i64 a0.den],.agg [.int .i64 a1.num,.int .i64 a1.den]]=some (.tup [.agg [.int .i64 r.1.a,.int .i64 r.1.b,.int .i64 r.1.c,.int .i64 r.1.d],.int .i64 r.2],false):=by
 unfold f199 at h
 obtain ⟨v1,h2,h⟩:=obind_some h
 have wh2:callIso pr (X pr) 168 []=some (.agg [.int .i64 v1.num,.int .i64 v1.den],false):=W168 h2
 rcases cond_split h with ⟨h3,h⟩ | ⟨h3,h⟩
 ·have hr:(⟨0,0,0,0⟩,17)=r:=Option.some.inj h
  subst hr
  have this:∃ hh,callFn pr (X pr) 199 [.agg [.int .i64 a0.num,.int .i64 a0.den],.agg [.int .i64 a1.num,.int .i64 a1.den]] []=some (.tup [.agg [.int .i64 0,.int .i64 0,.int .i64 0,.int .i64 0],.int .i64 17],false,hh):=by
   rw [callFn_at (show pr.fns 199=some c199 from rfl) (by simp)]
   simp only [go_sem,seval,c199,wh2,h3]
   exact ⟨_,rfl⟩
  obtain ⟨hh,this⟩:=this
  exact callIso_of rfl this (by first | rfl | simp only [go_sem,seval]) (by first | rfl | simp only [go_sem,seval])
 ·have hr:(⟨a0.num,a0.den,a1.num,a1.den⟩,0)=r:=Option.some.inj h
  subst hr
  have this:∃ hh,callFn pr (X pr) 199 [.agg [.int .i64 a0.num,.int .i64 a0.den],.agg [.int .i64 a1.num,.int .i64 a1.den]] []=some (.tup [.agg [.int .i64 a0.num,.int .i64 a0.den,.int .i64 a1.num,.int .i64 a1.den],.int .i64 0],false,hh):=by
   rw [callFn_at (show pr.fns 199=some c199 from rfl) (by simp)]
   simp only [go_sem,seval,c199,wh2,h3]
   exact ⟨_,rfl⟩
  obtain ⟨hh,this⟩:=this
  exact callIso_of rfl this (by first | rfl | simp only [go_sem,seval]) (by first | rfl | simp only [go_sem,seval])
noncomputable def f160 (a0:Option (List GEl)) (a1:Int):Option (GQuad × Int):=
 obind (f128 a0 a1) fun v1=>
 obind (f129 a0 a1) fun v3=>
 obind (f199 v1 (⟨v3.m0,v3.m1⟩)) fun v5=>
 some (v5.1,v5.2)
theorem W160 {a0:Option (List GEl)} {a1:Int} {r} (h:f160 a0 a1=some r):callIso pr (X pr) 160 [sl 3 vel a0,.int .i64 a1]=some (.tup [.agg [.int .i64 r.1.a,.int .i64 r.1.b,.int .i64 r.1.c,.int .i64 r.1.d],.int .i64 r.2],false):=by
 unfold f160 at h
 obtain ⟨v1,h2,h⟩:=obind_some h
 have wh2:callIso pr (X pr) 128 [sl 3 vel a0,.int .i64 a1]=some (.agg [.int .i64 v1.num,.int .i64 v1.den],false):=W128 h2
 obtain ⟨v3,h4,h⟩:=obind_some h
 have wh4:callIso pr (X pr) 129 [sl 3 vel a0,.int .i64 a1]=some (.agg [.int .i64 v3.m0,.int .i64 v3.m1,.int .i64 v3.m2,.int .i64 v3.m3,.int .i64 v3.m4,.int .i64 v3.m5,.int .i64 v3.m6,.int .i64 v3.m7],false):=W129 h4
 obtain ⟨v5,h6,h⟩:=obind_some h
 have wh6:callIso pr (X pr) 199 [.agg [.int .i64 v1.num,.int .i64 v1.den],.agg [.int .i64 v3.m0,.int .i64 v3.m1]]=some (.tup [.agg [.int .i64 v5.1.a,.int .i64 v5.1.b,.int .i64 v5.1.c,.int .i64 v5.1.d],.int .i64 v5.2],false):=W199 h6
 have hr:(v5.1,v5.2)=r:=Option.some.inj h
 subst hr
 have this:∃ hh,callFn pr (X pr) 160 [sl 3 vel a0,.int .i64 a1] []=some (.tup [.agg [.int .i64 v5.1.a,.int .i64 v5.1.b,.int .i64 v5.1.c,.int .i64 v5.1.d],.int .i64 v5.2],false,hh):=by
  rw [callFn_at (show pr.fns 160=some c160 from rfl) (by simp)]
  simp only [go_sem,seval,c160,wh2,wh4,wh6]
  exact ⟨_,rfl⟩
 obtain ⟨hh,this⟩:=this
 exact callIso_of rfl this (by first | rfl | simp only [go_sem,seval]) (by first | rfl | simp only [go_sem,seval])
noncomputable def f113 (a0:Option (List GEl)) (a1:Int):Option (GRat × Int):=
 obind (f160 a0 a1) fun v1=>
 cond (decide (v1.2=0))
  (obind (f130 (⟨v1.1.a,v1.1.b⟩)) fun v4=>
  obind (f130 (⟨v1.1.c,v1.1.d⟩)) fun v6=>
  obind (f66 v4 v6) fun v8=>
  some (v8,0))
  (some (⟨0,0⟩,v1.2))
theorem W113 {a0:Option (List GEl)} {a1:Int} {r} (h:f113 a0 a1=some r):callIso pr (X pr) 113 [sl 3 vel a0,.int .i64 a1]=some (.tup [.agg [.int .i64 r.1.num,.int .i64 r.1.den],.int .i64 r.2],false):=by
 unfold f113 at h
 obtain ⟨v1,h2,h⟩:=obind_some h
 have wh2:callIso pr (X pr) 160 [sl 3 vel a0,.int .i64 a1]=some (.tup [.agg [.int .i64 v1.1.a,.int .i64 v1.1.b,.int .i64 v1.1.c,.int .i64 v1.1.d],.int .i64 v1.2],false):=W160 h2
 rcases cond_split h with ⟨h3,h⟩ | ⟨h3,h⟩
 ·obtain ⟨v4,h5,h⟩:=obind_some h
  have wh5:callIso pr (X pr) 130 [.agg [.int .i64 v1.1.a,.int .i64 v1.1.b]]=some (.int .i64 v4,false):=W130 h5
  obtain ⟨v6,h7,h⟩:=obind_some h
  have wh7:callIso pr (X pr) 130 [.agg [.int .i64 v1.1.c,.int .i64 v1.1.d]]=some (.int .i64 v6,false):=W130 h7
  obtain ⟨v8,h9,h⟩:=obind_some h
  have wh9:callIso pr (X pr) 66 [.int .i64 v4,.int .i64 v6]=some (.agg [.int .i64 v8.num,.int .i64 v8.den],false):=W66 h9
  have hr:(v8,0)=r:=Option.some.inj h
  subst hr
  have this:∃ hh,callFn pr (X pr) 113 [sl 3 vel a0,.int .i64 a1] []=some (.tup [.agg [.int .i64 v8.num,.int .i64 v8.den],.int .i64 0],false,hh):=by
   rw [callFn_at (show pr.fns 113=some c113 from rfl) (by simp)]
   simp only [go_sem,seval,c113,wh2,h3,wh5,wh7,wh9]
   exact ⟨_,rfl⟩
  obtain ⟨hh,this⟩:=this
  exact callIso_of rfl this (by first | rfl | simp only [go_sem,seval]) (by first | rfl | simp only [go_sem,seval])
 ·have hr:(⟨0,0⟩,v1.2)=r:=Option.some.inj h
  subst hr
  have this:∃ hh,callFn pr (X pr) 113 [sl 3 vel a0,.int .i64 a1] []=some (.tup [.agg [.int .i64 0,.int .i64 0],.int .i64 v1.2],false,hh):=by
   rw [callFn_at (show pr.fns 113=some c113 from rfl) (by simp)]
   simp only [go_sem,seval,c113,wh2,h3]
   exact ⟨_,rfl⟩
  obtain ⟨hh,this⟩:=this
  exact callIso_of rfl this (by first | rfl | simp only [go_sem,seval]) (by first | rfl | simp only [go_sem,seval])
noncomputable def f34 (a0:Int):Option Int:=
 obind (f40 a0 1 8) fun v1=>
 some v1
theorem W34 {a0:Int} {r} (h:f34 a0=some r):callIso pr (X pr) 34 [.int .i64 a0]=some (.int .i64 r,false):=by
 unfold f34 at h
 obtain ⟨v1,h2,h⟩:=obind_some h
 have wh2:callIso pr (X pr) 40 [.int .i64 a0,.int .i64 1,.int .i64 8]=some (.int .i64 v1,false):=W40 h2
 have hr:v1=r:=Option.some.inj h
 subst hr
 have this:∃ hh,callFn pr (X pr) 34 [.int .i64 a0] []=some (.int .i64 v1,false,hh):=by
  rw [callFn_at (show pr.fns 34=some c34 from rfl) (by simp)]
  simp only [go_sem,seval,c34,wh2]
  exact ⟨_,rfl⟩
 obtain ⟨hh,this⟩:=this
 exact callIso_of rfl this (by first | rfl | simp only [go_sem,seval]) (by first | rfl | simp only [go_sem,seval])
noncomputable def f49 (a0:Option (List GEl)):Option Int:=
 obind (f103 a0) fun v1=>
 obind (f101 (decide (2 < ((a0.getD []).length:Int))) 5) fun v3=>
 obind (f100 (some [v1,v3])) fun v5=>
 some v5
theorem W49 {a0:Option (List GEl)} {r} (h:f49 a0=some r):callIso pr (X pr) 49 [sl 3 vel a0]=some (.int .i64 r,false):=by
 unfold f49 at h
 obtain ⟨v1,h2,h⟩:=obind_some h
 have wh2:callIso pr (X pr) 103 [sl 3 vel a0]=some (.int .i64 v1,false):=W103 h2
 obtain ⟨v3,h4,h⟩:=obind_some h
 have wh4:callIso pr (X pr) 101 [.bool (decide (2 < ((a0.getD []).length:Int))),.int .i64 5]=some (.int .i64 v3,false):=W101 h4
 obtain ⟨v5,h6,h⟩:=obind_some h
 have wh6:callIso pr (X pr) 100 [.list false 1 [.int .i64 v1,.int .i64 v3]]=some (.int .i64 v5,false):=W100 h6
 have hr:v5=r:=Option.some.inj h
 subst hr
 have this:∃ hh,callFn pr (X pr) 49 [sl 3 vel a0] []=some (.int .i64 v5,false,hh):=by
  rw [callFn_at (show pr.fns 49=some c49 from rfl) (by simp)]
  simp only [go_sem,seval,c49,wh2,wh4,wh6]
  exact ⟨_,rfl⟩
 obtain ⟨hh,this⟩:=this
 exact callIso_of rfl this (by first | rfl | simp only [go_sem,seval]) (by first | rfl | simp only [go_sem,seval])
noncomputable def f50 (a0:Int) (a1:Int):Option Int:=
 obind (f34 a0) fun v1=>
 obind (f34 a1) fun v3=>
 obind (f101 (decide (a1 < a0)) 11) fun v5=>
 obind (f100 (some [v1,v3,v5])) fun v7=>
 some v7
theorem W50 {a0:Int} {a1:Int} {r} (h:f50 a0 a1=some r):callIso pr (X pr) 50 [.int .i64 a0,.int .i64 a1]=some (.int .i64 r,false):=by
 unfold f50 at h
 obtain ⟨v1,h2,h⟩:=obind_some h
 have wh2:callIso pr (X pr) 34 [.int .i64 a0]=some (.int .i64 v1,false):=W34 h2
 obtain ⟨v3,h4,h⟩:=obind_some h
 have wh4:callIso pr (X pr) 34 [.int .i64 a1]=some (.int .i64 v3,false):=W34 h4
 obtain ⟨v5,h6,h⟩:=obind_some h
 have wh6:callIso pr (X pr) 101 [.bool (decide (a1 < a0)),.int .i64 11]=some (.int .i64 v5,false):=W101 h6
 obtain ⟨v7,h8,h⟩:=obind_some h
 have wh8:callIso pr (X pr) 100 [.list false 1 [.int .i64 v1,.int .i64 v3,.int .i64 v5]]=some (.int .i64 v7,false):=W100 h8
 have hr:v7=r:=Option.some.inj h
 subst hr
 have this:∃ hh,callFn pr (X pr) 50 [.int .i64 a0,.int .i64 a1] []=some (.int .i64 v7,false,hh):=by
  rw [callFn_at (show pr.fns 50=some c50 from rfl) (by simp)]
  simp only [go_sem,seval,c50,wh2,wh4,wh6,wh8]
  exact ⟨_,rfl⟩
 obtain ⟨hh,this⟩:=this
 exact callIso_of rfl this (by first | rfl | simp only [go_sem,seval]) (by first | rfl | simp only [go_sem,seval])
noncomputable def f51 (a0:Option (List GEl)) (a1:Option (List GEl)) (a2:Int) (a3:Bool):Option (GQuad × Int):=
 obind (f128 a0 a2) fun v1=>
 obind (f128 a1 a2) fun v3=>
 obind (f129 a0 a2) fun v5=>
 obind (f129 a1 a2) fun v7=>
 cond (decide (v5.m0=0) && decide (v5.m1=0))
  (some (⟨0,0,0,0⟩,17))
  (cond (decide (v7.m0=0) && decide (v7.m1=0))
   (some (⟨0,0,0,0⟩,17))
   (obind (f63 v1 (⟨v7.m0,v7.m1⟩)) fun v11=>
   obind (f63 v3 (⟨v5.m0,v5.m1⟩)) fun v13=>
   obind (f64 v11 v13) fun v15=>
   cond a3
    (obind (f65 v11 v13) fun v18=>
    obind (f63 (⟨v5.m0,v5.m1⟩) (⟨v7.m0,v7.m1⟩)) fun v20=>
    some (⟨v18.num,v18.den,v20.num,v20.den⟩,0))
    (obind (f63 (⟨v5.m0,v5.m1⟩) (⟨v7.m0,v7.m1⟩)) fun v22=>
    some (⟨v15.num,v15.den,v22.num,v22.den⟩,0))))
theorem W51 {a0:Option (List GEl)} {a1:Option (List GEl)} {a2:Int} {a3:Bool} {r} (h:f51 a0 a1 a2 a3=some r):callIso pr (X pr) 51 [sl 3 vel a0,sl 3 vel a1,.int .i64 a2,.bool a3]=some (.tup [.agg [.int .i64 r.1.a,.int .i64 r.1.b,.int .i64 r.1.c,.int .i64 r.1.d],.int .i64 r.2],false):=by
 unfold f51 at h
 obtain ⟨v1,h2,h⟩:=obind_some h
 have wh2:callIso pr (X pr) 128 [sl 3 vel a0,.int .i64 a2]=some (.agg [.int .i64 v1.num,.int .i64 v1.den],false):=W128 h2
 obtain ⟨v3,h4,h⟩:=obind_some h
 have wh4:callIso pr (X pr) 128 [sl 3 vel a1,.int .i64 a2]=some (.agg [.int .i64 v3.num,.int .i64 v3.den],false):=W128 h4
 obtain ⟨v5,h6,h⟩:=obind_some h
 have wh6:callIso pr (X pr) 129 [sl 3 vel a0,.int .i64 a2]=some (.agg [.int .i64 v5.m0,.int .i64 v5.m1,.int .i64 v5.m2,.int .i64 v5.m3,.int .i64 v5.m4,.int .i64 v5.m5,.int .i64 v5.m6,.int .i64 v5.m7],false):=W129 h6
 obtain ⟨v7,h8,h⟩:=obind_some h
 have wh8:callIso pr (X pr) 129 [sl 3 vel a1,.int .i64 a2]=some (.agg [.int .i64 v7.m0,.int .i64 v7.m1,.int .i64 v7.m2,.int .i64 v7.m3,.int .i64 v7.m4,.int .i64 v7.m5,.int .i64 v7.m6,.int .i64 v7.m7],false):=W129 h8
 rcases cond_split h with ⟨h9,h⟩ | ⟨h9,h⟩
 ·have hr:(⟨0,0,0,0⟩,17)=r:=Option.some.inj h
  subst hr
  have this:∃ hh,callFn pr (X pr) 51 [sl 3 vel a0,sl 3 vel a1,.int .i64 a2,.bool a3] []=some (.tup [.agg [.int .i64 0,.int .i64 0,.int .i64 0,.int .i64 0],.int .i64 17],false,hh):=by
   rw [callFn_at (show pr.fns 51=some c51 from rfl) (by simp)]
   simp only [go_sem,seval,c51,wh2,wh4,wh6,wh8,h9]
   exact ⟨_,rfl⟩
  obtain ⟨hh,this⟩:=this
  exact callIso_of rfl this (by first | rfl | simp only [go_sem,seval]) (by first | rfl | simp only [go_sem,seval])
 ·rcases cond_split h with ⟨h10,h⟩ | ⟨h10,h⟩
  ·have hr:(⟨0,0,0,0⟩,17)=r:=Option.some.inj h
   subst hr
   have this:∃ hh,callFn pr (X pr) 51 [sl 3 vel a0,sl 3 vel a1,.int .i64 a2,.bool a3] []=some (.tup [.agg [.int .i64 0,.int .i64 0,.int .i64 0,.int .i64 0],.int .i64 17],false,hh):=by
    rw [callFn_at (show pr.fns 51=some c51 from rfl) (by simp)]
    simp only [go_sem,seval,c51,wh2,wh4,wh6,wh8,h9,h10]
    exact ⟨_,rfl⟩
   obtain ⟨hh,this⟩:=this
   exact callIso_of rfl this (by first | rfl | simp only [go_sem,seval]) (by first | rfl | simp only [go_sem,seval])
  ·obtain ⟨v11,h12,h⟩:=obind_some h
   have wh12:callIso pr (X pr) 63 [.agg [.int .i64 v1.num,.int .i64 v1.den],.agg [.int .i64 v7.m0,.int .i64 v7.m1]]=some (.agg [.int .i64 v11.num,.int .i64 v11.den],false):=W63 h12
   obtain ⟨v13,h14,h⟩:=obind_some h
   have wh14:callIso pr (X pr) 63 [.agg [.int .i64 v3.num,.int .i64 v3.den],.agg [.int .i64 v5.m0,.int .i64 v5.m1]]=some (.agg [.int .i64 v13.num,.int .i64 v13.den],false):=W63 h14
   obtain ⟨v15,h16,h⟩:=obind_some h
   have wh16:callIso pr (X pr) 64 [.agg [.int .i64 v11.num,.int .i64 v11.den],.agg [.int .i64 v13.num,.int .i64 v13.den]]=some (.agg [.int .i64 v15.num,.int .i64 v15.den],false):=W64 h16
   rcases cond_split h with ⟨h17,h⟩ | ⟨h17,h⟩
   ·obtain ⟨v18,h19,h⟩:=obind_some h
    have wh19:callIso pr (X pr) 65 [.agg [.int .i64 v11.num,.int .i64 v11.den],.agg [.int .i64 v13.num,.int .i64 v13.den]]=some (.agg [.int .i64 v18.num,.int .i64 v18.den],false):=W65 h19
    obtain ⟨v20,h21,h⟩:=obind_some h
    have wh21:callIso pr (X pr) 63 [.agg [.int .i64 v5.m0,.int .i64 v5.m1],.agg [.int .i64 v7.m0,.int .i64 v7.m1]]=some (.agg [.int .i64 v20.num,.int .i64 v20.den],false):=W63 h21
    have hr:(⟨v18.num,v18.den,v20.num,v20.den⟩,0)=r:=Option.some.inj h
    subst hr
    have this:∃ hh,callFn pr (X pr) 51 [sl 3 vel a0,sl 3 vel a1,.int .i64 a2,.bool a3] []=some (.tup [.agg [.int .i64 v18.num,.int .i64 v18.den,.int .i64 v20.num,.int .i64 v20.den],.int .i64 0],false,hh):=by
     rw [callFn_at (show pr.fns 51=some c51 from rfl) (by simp)]
     simp only [go_sem,seval,c51,wh2,wh4,wh6,wh8,h9,h10,wh12,wh14,wh16,h17,wh19,wh21]
     exact ⟨_,rfl⟩
    obtain ⟨hh,this⟩:=this
    exact callIso_of rfl this (by first | rfl | simp only [go_sem,seval]) (by first | rfl | simp only [go_sem,seval])
   ·obtain ⟨v22,h23,h⟩:=obind_some h
    have wh23:callIso pr (X pr) 63 [.agg [.int .i64 v5.m0,.int .i64 v5.m1],.agg [.int .i64 v7.m0,.int .i64 v7.m1]]=some (.agg [.int .i64 v22.num,.int .i64 v22.den],false):=W63 h23
    have hr:(⟨v15.num,v15.den,v22.num,v22.den⟩,0)=r:=Option.some.inj h
    subst hr
    have this:∃ hh,callFn pr (X pr) 51 [sl 3 vel a0,sl 3 vel a1,.int .i64 a2,.bool a3] []=some (.tup [.agg [.int .i64 v15.num,.int .i64 v15.den,.int .i64 v22.num,.int .i64 v22.den],.int .i64 0],false,hh):=by
     rw [callFn_at (show pr.fns 51=some c51 from rfl) (by simp)]
     simp only [go_sem,seval,c51,wh2,wh4,wh6,wh8,h9,h10,wh12,wh14,wh16,h17,wh23]
     exact ⟨_,rfl⟩
    obtain ⟨hh,this⟩:=this
    exact callIso_of rfl this (by first | rfl | simp only [go_sem,seval]) (by first | rfl | simp only [go_sem,seval])
noncomputable def f52 (a0:GQuad):Option GRat:=
 obind (f130 (⟨a0.a,a0.b⟩)) fun v1=>
 obind (f130 (⟨a0.c,a0.d⟩)) fun v3=>
 obind (f66 v1 v3) fun v5=>
 some v5
theorem W52 {a0:GQuad} {r} (h:f52 a0=some r):callIso pr (X pr) 52 [.agg [.int .i64 a0.a,.int .i64 a0.b,.int .i64 a0.c,.int .i64 a0.d]]=some (.agg [.int .i64 r.num,.int .i64 r.den],false):=by
 unfold f52 at h
 obtain ⟨v1,h2,h⟩:=obind_some h
 have wh2:callIso pr (X pr) 130 [.agg [.int .i64 a0.a,.int .i64 a0.b]]=some (.int .i64 v1,false):=W130 h2
 obtain ⟨v3,h4,h⟩:=obind_some h
 have wh4:callIso pr (X pr) 130 [.agg [.int .i64 a0.c,.int .i64 a0.d]]=some (.int .i64 v3,false):=W130 h4
 obtain ⟨v5,h6,h⟩:=obind_some h
 have wh6:callIso pr (X pr) 66 [.int .i64 v1,.int .i64 v3]=some (.agg [.int .i64 v5.num,.int .i64 v5.den],false):=W66 h6
 have hr:v5=r:=Option.some.inj h
 subst hr
 have this:∃ hh,callFn pr (X pr) 52 [.agg [.int .i64 a0.a,.int .i64 a0.b,.int .i64 a0.c,.int .i64 a0.d]] []=some (.agg [.int .i64 v5.num,.int .i64 v5.den],false,hh):=by
  rw [callFn_at (show pr.fns 52=some c52 from rfl) (by simp)]
  simp only [go_sem,seval,c52,wh2,wh4,wh6]
  exact ⟨_,rfl⟩
 obtain ⟨hh,this⟩:=this
 exact callIso_of rfl this (by first | rfl | simp only [go_sem,seval]) (by first | rfl | simp only [go_sem,seval])
noncomputable def f32 (a0:Option (List Int)):Option Int:=
 obind (f100 a0) fun v1=>
 some v1
theorem W32 {a0:Option (List Int)} {r} (h:f32 a0=some r):callIso pr (X pr) 32 [sl 1 vint a0]=some (.int .i64 r,false):=by
 unfold f32 at h
 obtain ⟨v1,h2,h⟩:=obind_some h
 have wh2:callIso pr (X pr) 100 [sl 1 vint a0]=some (.int .i64 v1,false):=W100 h2
 have hr:v1=r:=Option.some.inj h
 subst hr
 have this:∃ hh,callFn pr (X pr) 32 [sl 1 vint a0] []=some (.int .i64 v1,false,hh):=by
  rw [callFn_at (show pr.fns 32=some c32 from rfl) (by simp)]
  simp only [go_sem,seval,c32,wh2]
  exact ⟨_,rfl⟩
 obtain ⟨hh,this⟩:=this
 exact callIso_of rfl this (by first | rfl | simp only [go_sem,seval]) (by first | rfl | simp only [go_sem,seval])
noncomputable def f43 (a0:Int) (a1:Int) (a2:Int) (a3:Int):Option Bool:=
 cond (decide (a2=0))
  (cond (decide (a1=0))
   (some (decide (a0=a3)))
   (some false))
  (cond (decide (a0=0))
   (some (decide (a1=a2)))
   (some false))
theorem W43 {a0:Int} {a1:Int} {a2:Int} {a3:Int} {r} (h:f43 a0 a1 a2 a3=some r):callIso pr (X pr) 43 [.int .i64 a0,.int .i64 a1,.int .i64 a2,.int .i64 a3]=some (.bool r,false):=by
 unfold f43 at h
 rcases cond_split h with ⟨h1,h⟩ | ⟨h1,h⟩
 ·rcases cond_split h with ⟨h2,h⟩ | ⟨h2,h⟩
  ·have hr:decide (a0=a3)=r:=Option.some.inj h
   subst hr
   have this:∃ hh,callFn pr (X pr) 43 [.int .i64 a0,.int .i64 a1,.int .i64 a2,.int .i64 a3] []=some (.bool (decide (a0=a3)),false,hh):=by
    rw [callFn_at (show pr.fns 43=some c43 from rfl) (by simp)]
    simp only [go_sem,seval,c43,h1,h2]
    exact ⟨_,rfl⟩
   obtain ⟨hh,this⟩:=this
   exact callIso_of rfl this (by first | rfl | simp only [go_sem,seval]) (by first | rfl | simp only [go_sem,seval])
  ·have hr:false=r:=Option.some.inj h
   subst hr
   have this:∃ hh,callFn pr (X pr) 43 [.int .i64 a0,.int .i64 a1,.int .i64 a2,.int .i64 a3] []=some (.bool false,false,hh):=by
    rw [callFn_at (show pr.fns 43=some c43 from rfl) (by simp)]
    simp only [go_sem,seval,c43,h1,h2]
    exact ⟨_,rfl⟩
   obtain ⟨hh,this⟩:=this
   exact callIso_of rfl this (by first | rfl | simp only [go_sem,seval]) (by first | rfl | simp only [go_sem,seval])
 ·rcases cond_split h with ⟨h3,h⟩ | ⟨h3,h⟩
  ·have hr:decide (a1=a2)=r:=Option.some.inj h
   subst hr
   have this:∃ hh,callFn pr (X pr) 43 [.int .i64 a0,.int .i64 a1,.int .i64 a2,.int .i64 a3] []=some (.bool (decide (a1=a2)),false,hh):=by
    rw [callFn_at (show pr.fns 43=some c43 from rfl) (by simp)]
    simp only [go_sem,seval,c43,h1,h3]
    exact ⟨_,rfl⟩
   obtain ⟨hh,this⟩:=this
   exact callIso_of rfl this (by first | rfl | simp only [go_sem,seval]) (by first | rfl | simp only [go_sem,seval])
  ·have hr:false=r:=Option.some.inj h
   subst hr
   have this:∃ hh,callFn pr (X pr) 43 [.int .i64 a0,.int .i64 a1,.int .i64 a2,.int .i64 a3] []=some (.bool false,false,hh):=by
    rw [callFn_at (show pr.fns 43=some c43 from rfl) (by simp)]
    simp only [go_sem,seval,c43,h1,h3]
    exact ⟨_,rfl⟩
   obtain ⟨hh,this⟩:=this
   exact callIso_of rfl this (by first | rfl | simp only [go_sem,seval]) (by first | rfl | simp only [go_sem,seval])
noncomputable def s44_0 (a0:Option (List GEl)) (s0:Int):Option (Int ⊕ (Unit ⊕ Int)):=
 cond (decide (s0 < ((a0.getD []).length:Int)))
  (obind (idxO (a0.getD []) s0) fun v11=>
  cond (decide (60 < (v11.kind.length:Int)))
   (some (.inr (.inl ())))
   (some (.inl (wrapF .i64 (s0 + 1)))))
  (some (.inr (.inr s0)))
def St44_0 (a0:Option (List GEl)) (s0:Int):ASt:=⟨[(0,sl 3 vel a0,false),(3,.int .i64 s0,false)],[]⟩
def Ex44_0 (a0:Option (List GEl)):Unit ⊕ Int→AExit × ASt
 | .inl d=>(.ret,⟨[(2,.bool false,false)],[]⟩)
 | .inr d=>(.exit 0,⟨[(0,sl 3 vel a0,false),(3,.int .i64 d,false),(10,.bool false,false)],[]⟩)
theorem b44_0 (a0:Option (List GEl)) (s0:Int) (r) (h:s44_0 a0 s0=some r):stepO pr c44_0 (St44_0 a0) (Ex44_0 a0) s0 r:=by
 unfold s44_0 at h
 rcases cond_split h with ⟨h10,h⟩ | ⟨h10,h⟩
 ·obtain ⟨v11,h12,h⟩:=obind_some h
  rcases cond_split h with ⟨h13,h⟩ | ⟨h13,h⟩
  ·cases h
   exact stepO_out (by simp only [go_sem,seval,c44_0,St44_0,h10,idxR_O h12,h13,Ex44_0] <;> rfl)
  ·cases h
   exact stepO_in (st':=⟨[(0,sl 3 vel a0,false),(3,.int .i64 (wrapF .i64 (s0 + 1)),false)],[]⟩) (by simp only [go_sem,seval,c44_0,St44_0,h10,idxR_O h12,h13] <;> rfl) (gc_same (Nat.le_refl _))
 ·cases h
  exact stepO_out (by simp only [go_sem,seval,c44_0,St44_0,h10,Ex44_0] <;> rfl)
theorem l44_0 (a0:Option (List GEl)) {s0:Int} {d} (h:itO (s44_0 a0) s0=some d):X pr (.loop c44_0) (St44_0 a0 s0)=some (Ex44_0 a0 d):=X_itO (b44_0 a0) (fun d=>by rcases d with d|d <;> (intro hh; cases hh)) h
noncomputable def f44 (a0:Option (List GEl)):Option Bool:=
 cond (decide (6 < ((a0.getD []).length:Int)))
  (some false)
  (obind (itO (s44_0 a0) 0) fun d14=>match d14 with
   | .inl d16=>
    some false
   | .inr d17=>
    some true)
theorem W44 {a0:Option (List GEl)} {r} (h:f44 a0=some r):callIso pr (X pr) 44 [sl 3 vel a0]=some (.bool r,false):=by
 unfold f44 at h
 rcases cond_split h with ⟨h1,h⟩ | ⟨h1,h⟩
 ·have hr:false=r:=Option.some.inj h
  subst hr
  have this:∃ hh,callFn pr (X pr) 44 [sl 3 vel a0] []=some (.bool false,false,hh):=by
   rw [callFn_at (show pr.fns 44=some c44 from rfl) (by simp)]
   simp only [go_sem,seval,c44,h1]
   exact ⟨_,rfl⟩
  obtain ⟨hh,this⟩:=this
  exact callIso_of rfl this (by first | rfl | simp only [go_sem,seval]) (by first | rfl | simp only [go_sem,seval])
 ·obtain ⟨d14,h15,h⟩:=obind_some h
  rcases d14 with d16 | d17
  ·have wh15:X pr (.loop c44_0) ⟨[(0,sl 3 vel a0,false),(3,.int .i64 0,false)],[]⟩=some (.ret,⟨[(2,.bool false,false)],[]⟩):=l44_0 a0 h15
   have hr:false=r:=Option.some.inj h
   subst hr
   have this:∃ hh,callFn pr (X pr) 44 [sl 3 vel a0] []=some (.bool false,false,hh):=by
    rw [callFn_at (show pr.fns 44=some c44 from rfl) (by simp)]
    simp only [go_sem,seval,c44,h1,wh15]
    exact ⟨_,rfl⟩
   obtain ⟨hh,this⟩:=this
   exact callIso_of rfl this (by first | rfl | simp only [go_sem,seval]) (by first | rfl | simp only [go_sem,seval])
  ·have wh15:X pr (.loop c44_0) ⟨[(0,sl 3 vel a0,false),(3,.int .i64 0,false)],[]⟩=some (.exit 0,⟨[(0,sl 3 vel a0,false),(3,.int .i64 d17,false),(10,.bool false,false)],[]⟩):=l44_0 a0 h15
   have hr:true=r:=Option.some.inj h
   subst hr
   have this:∃ hh,callFn pr (X pr) 44 [sl 3 vel a0] []=some (.bool true,false,hh):=by
    rw [callFn_at (show pr.fns 44=some c44 from rfl) (by simp)]
    simp only [go_sem,seval,c44,h1,wh15]
    exact ⟨_,rfl⟩
   obtain ⟨hh,this⟩:=this
   exact callIso_of rfl this (by first | rfl | simp only [go_sem,seval]) (by first | rfl | simp only [go_sem,seval])
noncomputable def s46_0 (a0:Option (List GEl)) (s0:(Option (List GEl)) × Int × Bool):Option (((Option (List GEl)) × Int × Bool) ⊕ (((Option (List GEl)) × Bool × Int))):=
 cond (decide (s0.2.1 < ((a0.getD []).length:Int)))
  (obind (idxO (a0.getD []) s0.2.1) fun v14=>
  cond s0.2.2
   (obind (apO s0.1 [v14]) fun v17=>
   some (.inl (v17,wrapF .i64 (s0.2.1 + 1),true)))
   (cond s0.1.isNone
    (obind (apO s0.1 [v14]) fun v20=>
    some (.inl (v20,wrapF .i64 (s0.2.1 + 1),true)))
    (none)))
  (some (.inr (s0.1,s0.2.2,s0.2.1)))
def St46_0 (a0:Option (List GEl)) (s0:(Option (List GEl)) × Int × Bool):ASt:=⟨[(3,sl 3 vel s0.1,s0.2.2),(6,sl 3 vel a0,false),(7,.int .i64 ((a0.getD []).length:Int),false),(8,.int .i64 s0.2.1,false)],[]⟩
def Ex46_0 (a0:Option (List GEl)) (d:((Option (List GEl)) × Bool × Int)):AExit × ASt:=(.exit 0,⟨[(3,sl 3 vel d.1,d.2.1),(6,sl 3 vel a0,false),(7,.int .i64 ((a0.getD []).length:Int),false),(8,.int .i64 d.2.2,false),(9,.bool false,false)],[]⟩)
theorem b46_0 (a0:Option (List GEl)) (s0:(Option (List GEl)) × Int × Bool) (r) (h:s46_0 a0 s0=some r):stepO pr c46_0 (St46_0 a0) (Ex46_0 a0) s0 r:=by
 unfold s46_0 at h
 rcases cond_split h with ⟨h13,h⟩ | ⟨h13,h⟩
 ·obtain ⟨v14,h15,h⟩:=obind_some h
  rcases cond_split h with ⟨h16,h⟩ | ⟨h16,h⟩
  ·obtain ⟨v17,h18,h⟩:=obind_some h
   cases h
   exact stepO_in (st':=⟨[(3,sl 3 vel v17,true),(6,sl 3 vel a0,false),(7,.int .i64 ((a0.getD []).length:Int),false),(8,.int .i64 (wrapF .i64 (s0.2.1 + 1)),false)],[]++[.cells [(.str v14.kind,false),(.int .i64 v14.a,false),(.int .i64 v14.b,false)]]⟩) (by simp only [go_sem,seval,c46_0,St46_0,h13,idxR_O h15,h16,app_vel_O h18] <;> rfl) (gc_over rfl rfl (by first | simp only [go_sem,seval,St46_0] | rfl) (by first | simp only [go_sem,seval,St46_0] | rfl))
  ·rcases cond_split h with ⟨h19,h⟩ | ⟨h19,h⟩
   ·obtain ⟨v20,h21,h⟩:=obind_some h
    cases h
    exact stepO_in (st':=⟨[(3,sl 3 vel v20,true),(6,sl 3 vel a0,false),(7,.int .i64 ((a0.getD []).length:Int),false),(8,.int .i64 (wrapF .i64 (s0.2.1 + 1)),false)],[]++[.cells [(.str v14.kind,false),(.int .i64 v14.a,false),(.int .i64 v14.b,false)]]⟩) (by simp only [go_sem,seval,c46_0,St46_0,h13,idxR_O h15,h16,h19,app_vel_N h21 h19] <;> rfl) (gc_over rfl rfl (by first | simp only [go_sem,seval,St46_0] | rfl) (by first | simp only [go_sem,seval,St46_0] | rfl))
   ·cases h
 ·cases h
  exact stepO_out (by simp only [go_sem,seval,c46_0,St46_0,h13,Ex46_0] <;> rfl)
theorem l46_0 (a0:Option (List GEl)) {s0:(Option (List GEl)) × Int × Bool} {d} (h:itO (s46_0 a0) s0=some d):X pr (.loop c46_0) (St46_0 a0 s0)=some (Ex46_0 a0 d):=X_itO (b46_0 a0) (fun d hh=>by cases hh) h
noncomputable def f46 (a0:Option (List GEl)):Option ((Option (List GEl)) × Bool):=
 obind (itO (s46_0 a0) (none,0,false)) fun d22=>
 some (d22.1,d22.2.1)
theorem W46 {a0:Option (List GEl)} {r} (h:f46 a0=some r):callIso pr (X pr) 46 [sl 3 vel a0]=some (sl 3 vel r.1,r.2):=by
 unfold f46 at h
 obtain ⟨d22,h23,h⟩:=obind_some h
 have wh23:X pr (.loop c46_0) ⟨[(3,.list true 0 [],false),(6,sl 3 vel a0,false),(7,.int .i64 ((a0.getD []).length:Int),false),(8,.int .i64 0,false)],[]⟩=some (.exit 0,⟨[(3,sl 3 vel d22.1,d22.2.1),(6,sl 3 vel a0,false),(7,.int .i64 ((a0.getD []).length:Int),false),(8,.int .i64 d22.2.2,false),(9,.bool false,false)],[]⟩):=l46_0 a0 h23
 have hr:(d22.1,d22.2.1)=r:=Option.some.inj h
 subst hr
 have this:∃ hh,callFn pr (X pr) 46 [sl 3 vel a0] []=some (sl 3 vel d22.1,d22.2.1,hh):=by
  rw [callFn_at (show pr.fns 46=some c46 from rfl) (by simp)]
  simp only [go_sem,seval,c46,wh23]
  exact ⟨_,rfl⟩
 obtain ⟨hh,this⟩:=this
 exact callIso_of_dyn rfl this (by first | rfl | simp only [go_sem,seval]) (by first | rfl | simp only [go_sem,seval]) (by first | rfl | simp only [go_sem,seval])
end Go.Z
/-
 Chapter 4: levels and sums: functions that mirror the runs,and the runs (printed by walk.py).
-/
namespace Go.Z
open Go Go.Abs
noncomputable def s53_0 (a0:Option (List GEl)) (a1:Option (List GEl)) (a2:Int) (s0:Int × Int):Option ((Int × Int) ⊕ ((Int × Int × Int × Int) ⊕ (Int × Int))):=
 cond (decide (a2≤s0.2))
  (obind (f113 a0 s0.2) fun v22=>
  obind (f113 a1 s0.2) fun v24=>
  cond (decide (v22.2=0))
   (cond (decide (v24.2=0))
    (obind (f58 200 v24.1 v22.1) fun v28=>
    cond v28
     (some (.inl (s0.1,wrapF .i64 (s0.2 - 1))))
     (some (.inl (s0.2,wrapF .i64 (s0.2 - 1)))))
    (some (.inr (.inl (v22.1.num,v22.1.den,v24.1.num,v24.1.den)))))
   (some (.inr (.inl (v22.1.num,v22.1.den,v24.1.num,v24.1.den)))))
  (some (.inr (.inr (s0.1,s0.2))))
def St53_0 (a0:Option (List GEl)) (a1:Option (List GEl)) (a2:Int) (s0:Int × Int):ASt:=⟨[(0,sl 3 vel a0,false),(1,sl 3 vel a1,false),(2,.int .i64 a2,false),(10,.int .i64 s0.1,false),(11,.int .i64 s0.2,false)],[]⟩
def Ex53_0 (a0:Option (List GEl)) (a1:Option (List GEl)) (a2:Int):(Int × Int × Int × Int) ⊕ (Int × Int)→AExit × ASt
 | .inl d=>(.ret,⟨[(8,.int .i64 0,false),(9,.int .i64 17,false)],[.cells [(.int .i64 d.1,false),(.int .i64 d.2.1,false)],.cells [(.int .i64 d.2.2.1,false),(.int .i64 d.2.2.2,false)]]⟩)
 | .inr d=>(.exit 0,⟨[(0,sl 3 vel a0,false),(1,sl 3 vel a1,false),(2,.int .i64 a2,false),(10,.int .i64 d.1,false),(11,.int .i64 d.2,false),(19,.bool false,false)],[]⟩)
theorem b53_0 (a0:Option (List GEl)) (a1:Option (List GEl)) (a2:Int) (s0:Int × Int) (r) (h:s53_0 a0 a1 a2 s0=some r):stepO pr c53_0 (St53_0 a0 a1 a2) (Ex53_0 a0 a1 a2) s0 r:=by
 unfold s53_0 at h
 rcases cond_split h with ⟨h21,h⟩ | ⟨h21,h⟩
 ·obtain ⟨v22,h23,h⟩:=obind_some h
  have wh23:callIso pr (X pr) 113 [sl 3 vel a0,.int .i64 s0.2]=some (.tup [.agg [.int .i64 v22.1.num,.int .i64 v22.1.den],.int .i64 v22.2],false):=W113 h23
  obtain ⟨v24,h25,h⟩:=obind_some h
  have wh25:callIso pr (X pr) 113 [sl 3 vel a1,.int .i64 s0.2]=some (.tup [.agg [.int .i64 v24.1.num,.int .i64 v24.1.den],.int .i64 v24.2],false):=W113 h25
  rcases cond_split h with ⟨h26,h⟩ | ⟨h26,h⟩
  ·rcases cond_split h with ⟨h27,h⟩ | ⟨h27,h⟩
   ·obtain ⟨v28,h29,h⟩:=obind_some h
    have wh29:callIso pr (X pr) 58 [.agg [.int .i64 v24.1.num,.int .i64 v24.1.den],.agg [.int .i64 v22.1.num,.int .i64 v22.1.den]]=some (.bool v28,false):=W58 200 h29
    rcases cond_split h with ⟨h30,h⟩ | ⟨h30,h⟩
    ·cases h
     exact stepO_in (st':=⟨[(0,sl 3 vel a0,false),(1,sl 3 vel a1,false),(2,.int .i64 a2,false),(10,.int .i64 s0.1,false),(11,.int .i64 (wrapF .i64 (s0.2 - 1)),false)],[]++[.cells [(.int .i64 v22.1.num,false),(.int .i64 v22.1.den,false)],.cells [(.int .i64 v24.1.num,false),(.int .i64 v24.1.den,false)]]⟩) (by simp only [go_sem,seval,c53_0,St53_0,h21,wh23,wh25,h26,h27,wh29,h30] <;> rfl) (gc_over rfl rfl (by first | simp only [go_sem,seval,St53_0] | rfl) (by first | simp only [go_sem,seval,St53_0] | rfl))
    ·cases h
     exact stepO_in (st':=⟨[(0,sl 3 vel a0,false),(1,sl 3 vel a1,false),(2,.int .i64 a2,false),(10,.int .i64 s0.2,false),(11,.int .i64 (wrapF .i64 (s0.2 - 1)),false)],[]++[.cells [(.int .i64 v22.1.num,false),(.int .i64 v22.1.den,false)],.cells [(.int .i64 v24.1.num,false),(.int .i64 v24.1.den,false)]]⟩) (by simp only [go_sem,seval,c53_0,St53_0,h21,wh23,wh25,h26,h27,wh29,h30] <;> rfl) (gc_over rfl rfl (by first | simp only [go_sem,seval,St53_0] | rfl) (by first | simp only [go_sem,seval,St53_0] | rfl))
   ·cases h
    exact stepO_out (by simp only [go_sem,seval,c53_0,St53_0,h21,wh23,wh25,h26,h27,Ex53_0] <;> rfl)
  ·cases h
   exact stepO_out (by simp only [go_sem,seval,c53_0,St53_0,h21,wh23,wh25,h26,Ex53_0] <;> rfl)
 ·cases h
  exact stepO_out (by simp only [go_sem,seval,c53_0,St53_0,h21,Ex53_0] <;> rfl)
theorem l53_0 (a0:Option (List GEl)) (a1:Option (List GEl)) (a2:Int) {s0:Int × Int} {d} (h:itO (s53_0 a0 a1 a2) s0=some d):X pr (.loop c53_0) (St53_0 a0 a1 a2 s0)=some (Ex53_0 a0 a1 a2 d):=X_itO (b53_0 a0 a1 a2) (fun d=>by rcases d with d|d <;> (intro hh; cases hh)) h
noncomputable def f53 (a0:Option (List GEl)) (a1:Option (List GEl)) (a2:Int) (a3:Int):Option (Int × Int):=
 obind (itO (s53_0 a0 a1 a2) (0,a3)) fun d31=>match d31 with
  | .inl d33=>
   some (0,17)
  | .inr d34=>
   obind (f101 (decide (d34.1=0)) 7) fun v35=>
   some (d34.1,v35)
theorem W53 {a0:Option (List GEl)} {a1:Option (List GEl)} {a2:Int} {a3:Int} {r} (h:f53 a0 a1 a2 a3=some r):callIso pr (X pr) 53 [sl 3 vel a0,sl 3 vel a1,.int .i64 a2,.int .i64 a3]=some (.tup [.int .i64 r.1,.int .i64 r.2],false):=by
 unfold f53 at h
 obtain ⟨d31,h32,h⟩:=obind_some h
 rcases d31 with d33 | d34
 ·have wh32:X pr (.loop c53_0) ⟨[(0,sl 3 vel a0,false),(1,sl 3 vel a1,false),(2,.int .i64 a2,false),(10,.int .i64 0,false),(11,.int .i64 a3,false)],[]⟩=some (.ret,⟨[(8,.int .i64 0,false),(9,.int .i64 17,false)],[.cells [(.int .i64 d33.1,false),(.int .i64 d33.2.1,false)],.cells [(.int .i64 d33.2.2.1,false),(.int .i64 d33.2.2.2,false)]]⟩):=l53_0 a0 a1 a2 h32
  have hr:(0,17)=r:=Option.some.inj h
  subst hr
  have this:∃ hh,callFn pr (X pr) 53 [sl 3 vel a0,sl 3 vel a1,.int .i64 a2,.int .i64 a3] []=some (.tup [.int .i64 0,.int .i64 17],false,hh):=by
   rw [callFn_at (show pr.fns 53=some c53 from rfl) (by simp)]
   simp only [go_sem,seval,c53,wh32]
   exact ⟨_,rfl⟩
  obtain ⟨hh,this⟩:=this
  exact callIso_of rfl this (by first | rfl | simp only [go_sem,seval]) (by first | rfl | simp only [go_sem,seval])
 ·have wh32:X pr (.loop c53_0) ⟨[(0,sl 3 vel a0,false),(1,sl 3 vel a1,false),(2,.int .i64 a2,false),(10,.int .i64 0,false),(11,.int .i64 a3,false)],[]⟩=some (.exit 0,⟨[(0,sl 3 vel a0,false),(1,sl 3 vel a1,false),(2,.int .i64 a2,false),(10,.int .i64 d34.1,false),(11,.int .i64 d34.2,false),(19,.bool false,false)],[]⟩):=l53_0 a0 a1 a2 h32
  obtain ⟨v35,h36,h⟩:=obind_some h
  have wh36:callIso pr (X pr) 101 [.bool (decide (d34.1=0)),.int .i64 7]=some (.int .i64 v35,false):=W101 h36
  have hr:(d34.1,v35)=r:=Option.some.inj h
  subst hr
  have this:∃ hh,callFn pr (X pr) 53 [sl 3 vel a0,sl 3 vel a1,.int .i64 a2,.int .i64 a3] []=some (.tup [.int .i64 d34.1,.int .i64 v35],false,hh):=by
   rw [callFn_at (show pr.fns 53=some c53 from rfl) (by simp)]
   simp only [go_sem,seval,c53,wh32,wh36]
   exact ⟨_,rfl⟩
  obtain ⟨hh,this⟩:=this
  exact callIso_of rfl this (by first | rfl | simp only [go_sem,seval]) (by first | rfl | simp only [go_sem,seval])
end Go.Z
