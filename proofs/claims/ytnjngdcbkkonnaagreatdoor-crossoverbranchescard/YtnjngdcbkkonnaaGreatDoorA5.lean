/-
  Chapter 4: levels and sums: functions that mirror the runs, and the runs (printed by walk.py).
-/
import Derived.Test.YtnjngdcbkkonnaaGreatDoorA4
set_option linter.unusedVariables false
set_option linter.unusedSimpArgs false
set_option maxRecDepth 100000
set_option maxHeartbeats 4000000
namespace Go.Z
open Go Go.Abs
noncomputable def f136 (a0:GRat) (a1:GRat):Option (GQuad × Int):=
 cond (decide (a1.num=0) && decide (a1.den=0))
  (some (⟨0,0,0,0⟩,17))
  (some (⟨a0.num,a0.den,a1.num,a1.den⟩,0))
theorem W136 {a0:GRat} {a1:GRat} {r} (h:f136 a0 a1=some r):callIso pr (X pr) 136 [.agg [.int .i64 a0.num,.int .i64 a0.den],.agg [.int .i64 a1.num,.int .i64 a1.den]]=some (.tup [.agg [.int .i64 r.1.a,.int .i64 r.1.b,.int .i64 r.1.c,.int .i64 r.1.d],.int .i64 r.2],false):=by
 unfold f136 at h
 rcases cond_split h with ⟨h1,h⟩ | ⟨h1,h⟩
 ·have hr:(⟨0,0,0,0⟩,17)=r:=Option.some.inj h
  subst hr
  refine iso_F rfl ?_ (fun _=>by first | rfl | simp only [go_sem,seval]) (by first | rfl | simp only [go_sem,seval])
  rw [callFn_at (show pr.fns 136=some c136 from rfl) (by simp)]
  simp only [go_sem,seval,c136,h1]
  exact ⟨_,rfl⟩
 ·have hr:(⟨a0.num,a0.den,a1.num,a1.den⟩,0)=r:=Option.some.inj h
  subst hr
  refine iso_F rfl ?_ (fun _=>by first | rfl | simp only [go_sem,seval]) (by first | rfl | simp only [go_sem,seval])
  rw [callFn_at (show pr.fns 136=some c136 from rfl) (by simp)]
  simp only [go_sem,seval,c136,h1]
  exact ⟨_,rfl⟩
noncomputable def f135 (a0:GMat) (a1:GRat) (c0_0:Int) (c0_1:Int) (c0_2:Int) (c0_3:Int):Option ((GQuad × Int)):=
 obind (f136 a1 (⟨a0.m0,a0.m1⟩)) fun v1=>
 some (v1.1,v1.2)
theorem W135 {a0:GMat} {a1:GRat} {c0_0:Int} {c0_1:Int} {c0_2:Int} {c0_3:Int} {r} (h:f135 a0 a1 c0_0 c0_1 c0_2 c0_3=some r):callFn pr (X pr) 135 [.agg [.int .i64 a0.m0,.int .i64 a0.m1,.int .i64 a0.m2,.int .i64 a0.m3,.int .i64 a0.m4,.int .i64 a0.m5,.int .i64 a0.m6,.int .i64 a0.m7],.agg [.int .i64 a1.num,.int .i64 a1.den]] [.cells [(.int .i64 c0_0,false),(.int .i64 c0_1,false),(.int .i64 c0_2,false),(.int .i64 c0_3,false)]]=some (.tup [.agg [.int .i64 r.1.a,.int .i64 r.1.b,.int .i64 r.1.c,.int .i64 r.1.d],.int .i64 r.2],false,[.cells [(.int .i64 c0_0,false),(.int .i64 c0_1,false),(.int .i64 c0_2,false),(.int .i64 c0_3,false)],.cells [(.int .i64 r.1.a,false),(.int .i64 r.1.b,false),(.int .i64 r.1.c,false),(.int .i64 r.1.d,false)]]):=by
 unfold f135 at h
 obtain ⟨v1,h2,h⟩:=obind_some h
 have wh2:callIso pr (X pr) 136 [.agg [.int .i64 a1.num,.int .i64 a1.den],.agg [.int .i64 a0.m0,.int .i64 a0.m1]]=some (.tup [.agg [.int .i64 v1.1.a,.int .i64 v1.1.b,.int .i64 v1.1.c,.int .i64 v1.1.d],.int .i64 v1.2],false):=W136 h2
 have hr:(v1.1,v1.2)=r:=Option.some.inj h
 subst hr
 rw [callFn_at (show pr.fns 135=some c135 from rfl) (by simp)]
 simp only [go_sem,seval,c135,wh2] <;> rfl
noncomputable def f132 (a0:GMat) (a1:GRat) (c0_0:Int) (c0_1:Int):Option ((GRat × Int)):=
 cond (decide (a0.m0=0) && decide (a0.m1=0))
  (some (⟨0,0⟩,17))
  (obind (f175 a1) fun v2=>
  obind (f175 (⟨a0.m0,a0.m1⟩)) fun v4=>
  obind (f174 v2 v4) fun v6=>
  some (v6,0))
theorem W132 {a0:GMat} {a1:GRat} {c0_0:Int} {c0_1:Int} {r} (h:f132 a0 a1 c0_0 c0_1=some r):callFn pr (X pr) 132 [.agg [.int .i64 a0.m0,.int .i64 a0.m1,.int .i64 a0.m2,.int .i64 a0.m3,.int .i64 a0.m4,.int .i64 a0.m5,.int .i64 a0.m6,.int .i64 a0.m7],.agg [.int .i64 a1.num,.int .i64 a1.den]] [.cells [(.int .i64 c0_0,false),(.int .i64 c0_1,false)]]=some (.tup [.agg [.int .i64 r.1.num,.int .i64 r.1.den],.int .i64 r.2],false,[.cells [(.int .i64 c0_0,false),(.int .i64 c0_1,false)],.cells [(.int .i64 r.1.num,false),(.int .i64 r.1.den,false)]]):=by
 unfold f132 at h
 rcases cond_split h with ⟨h1,h⟩ | ⟨h1,h⟩
 ·have hr:(⟨0,0⟩,17)=r:=Option.some.inj h
  subst hr
  rw [callFn_at (show pr.fns 132=some c132 from rfl) (by simp)]
  simp only [go_sem,seval,c132,h1] <;> rfl
 ·obtain ⟨v2,h3,h⟩:=obind_some h
  have wh3:callIso pr (X pr) 175 [.agg [.int .i64 a1.num,.int .i64 a1.den]]=some (.int .i64 v2,false):=W175 h3
  obtain ⟨v4,h5,h⟩:=obind_some h
  have wh5:callIso pr (X pr) 175 [.agg [.int .i64 a0.m0,.int .i64 a0.m1]]=some (.int .i64 v4,false):=W175 h5
  obtain ⟨v6,h7,h⟩:=obind_some h
  have hr:(v6,0)=r:=Option.some.inj h
  subst hr
  rw [callFn_at (show pr.fns 132=some c132 from rfl) (by simp)]
  simp only [go_sem,seval,c132,h1,wh3,wh5,W174 h7] <;> rfl
noncomputable def f134 (a0:Option (List GEl)) (a1:Int):Option (GQuad × Int):=
 obind (f158 a0) fun v1=>
 obind (f172 a1) fun v3=>
 obind (f171 (some [v1,v3])) fun v5=>
 cond (decide (v5=0))
  (obind (f173 a0 a1) fun v8=>
  obind (f135 v8.1 v8.2 0 0 0 0) fun v10=>
  some (v10.1,v10.2))
  (some (⟨0,0,0,0⟩,v5))
theorem W134 {a0:Option (List GEl)} {a1:Int} {r} (h:f134 a0 a1=some r):callIso pr (X pr) 134 [sl 3 vel a0,.int .i64 a1,.fn (.func 135) [] []]=some (.tup [.agg [.int .i64 r.1.a,.int .i64 r.1.b,.int .i64 r.1.c,.int .i64 r.1.d],.int .i64 r.2],false):=by
 unfold f134 at h
 obtain ⟨v1,h2,h⟩:=obind_some h
 obtain ⟨v3,h4,h⟩:=obind_some h
 obtain ⟨v5,h6,h⟩:=obind_some h
 have wh6:callIso pr (X pr) 171 [.list false 1 [.int .i64 v1,.int .i64 v3]]=some (.int .i64 v5,false):=W171 h6
 rcases cond_split h with ⟨h7,h⟩ | ⟨h7,h⟩
 ·obtain ⟨v8,h9,h⟩:=obind_some h
  obtain ⟨v10,h11,h⟩:=obind_some h
  have wh11:callFn pr (X pr) 135 [.agg [.int .i64 v8.1.m0,.int .i64 v8.1.m1,.int .i64 v8.1.m2,.int .i64 v8.1.m3,.int .i64 v8.1.m4,.int .i64 v8.1.m5,.int .i64 v8.1.m6,.int .i64 v8.1.m7],.agg [.int .i64 v8.2.num,.int .i64 v8.2.den]] [.cells [(.int .i64 0,false),(.int .i64 0,false),(.int .i64 0,false),(.int .i64 0,false)]]=some (.tup [.agg [.int .i64 v10.1.a,.int .i64 v10.1.b,.int .i64 v10.1.c,.int .i64 v10.1.d],.int .i64 v10.2],false,[.cells [(.int .i64 0,false),(.int .i64 0,false),(.int .i64 0,false),(.int .i64 0,false)],.cells [(.int .i64 v10.1.a,false),(.int .i64 v10.1.b,false),(.int .i64 v10.1.c,false),(.int .i64 v10.1.d,false)]]):=W135 h11
  have hr:(v10.1,v10.2)=r:=Option.some.inj h
  subst hr
  refine iso_F rfl ?_ (fun _=>by first | rfl | simp only [go_sem,seval]) (by first | rfl | simp only [go_sem,seval])
  rw [callFn_at (show pr.fns 134=some c134 from rfl) (by simp)]
  simp only [go_sem,seval,c134,W158 h2,W172 h4,wh6,h7,W173 h9,wh11]
  exact ⟨_,rfl⟩
 ·have hr:(⟨0,0,0,0⟩,v5)=r:=Option.some.inj h
  subst hr
  refine iso_F rfl ?_ (fun _=>by first | rfl | simp only [go_sem,seval]) (by first | rfl | simp only [go_sem,seval])
  rw [callFn_at (show pr.fns 134=some c134 from rfl) (by simp)]
  simp only [go_sem,seval,c134,W158 h2,W172 h4,wh6,h7]
  exact ⟨_,rfl⟩
noncomputable def f131 (a0:Option (List GEl)) (a1:Int):Option (GRat × Int):=
 obind (f158 a0) fun v1=>
 obind (f172 a1) fun v3=>
 obind (f171 (some [v1,v3])) fun v5=>
 cond (decide (v5=0))
  (obind (f173 a0 a1) fun v8=>
  obind (f132 v8.1 v8.2 0 0) fun v10=>
  some (v10.1,v10.2))
  (some (⟨0,0⟩,v5))
theorem W131 {a0:Option (List GEl)} {a1:Int} {r} (h:f131 a0 a1=some r):callIso pr (X pr) 131 [sl 3 vel a0,.int .i64 a1,.fn (.func 132) [] []]=some (.tup [.agg [.int .i64 r.1.num,.int .i64 r.1.den],.int .i64 r.2],false):=by
 unfold f131 at h
 obtain ⟨v1,h2,h⟩:=obind_some h
 obtain ⟨v3,h4,h⟩:=obind_some h
 obtain ⟨v5,h6,h⟩:=obind_some h
 have wh6:callIso pr (X pr) 171 [.list false 1 [.int .i64 v1,.int .i64 v3]]=some (.int .i64 v5,false):=W171 h6
 rcases cond_split h with ⟨h7,h⟩ | ⟨h7,h⟩
 ·obtain ⟨v8,h9,h⟩:=obind_some h
  obtain ⟨v10,h11,h⟩:=obind_some h
  have wh11:callFn pr (X pr) 132 [.agg [.int .i64 v8.1.m0,.int .i64 v8.1.m1,.int .i64 v8.1.m2,.int .i64 v8.1.m3,.int .i64 v8.1.m4,.int .i64 v8.1.m5,.int .i64 v8.1.m6,.int .i64 v8.1.m7],.agg [.int .i64 v8.2.num,.int .i64 v8.2.den]] [.cells [(.int .i64 0,false),(.int .i64 0,false)]]=some (.tup [.agg [.int .i64 v10.1.num,.int .i64 v10.1.den],.int .i64 v10.2],false,[.cells [(.int .i64 0,false),(.int .i64 0,false)],.cells [(.int .i64 v10.1.num,false),(.int .i64 v10.1.den,false)]]):=W132 h11
  have hr:(v10.1,v10.2)=r:=Option.some.inj h
  subst hr
  refine iso_F rfl ?_ (fun _=>by first | rfl | simp only [go_sem,seval]) (by first | rfl | simp only [go_sem,seval])
  rw [callFn_at (show pr.fns 131=some c131 from rfl) (by simp)]
  simp only [go_sem,seval,c131,W158 h2,W172 h4,wh6,h7,W173 h9,wh11]
  exact ⟨_,rfl⟩
 ·have hr:(⟨0,0⟩,v5)=r:=Option.some.inj h
  subst hr
  refine iso_F rfl ?_ (fun _=>by first | rfl | simp only [go_sem,seval]) (by first | rfl | simp only [go_sem,seval])
  rw [callFn_at (show pr.fns 131=some c131 from rfl) (by simp)]
  simp only [go_sem,seval,c131,W158 h2,W172 h4,wh6,h7]
  exact ⟨_,rfl⟩
noncomputable def f60 (a0:Option (List GEl)) (a1:Int):Option (GQuad × Int):=
 obind (f134 a0 a1) fun v1=>
 some (v1.1,v1.2)
theorem W60 {a0:Option (List GEl)} {a1:Int} {r} (h:f60 a0 a1=some r):callIso pr (X pr) 60 [sl 3 vel a0,.int .i64 a1]=some (.tup [.agg [.int .i64 r.1.a,.int .i64 r.1.b,.int .i64 r.1.c,.int .i64 r.1.d],.int .i64 r.2],false):=by
 unfold f60 at h
 obtain ⟨v1,h2,h⟩:=obind_some h
 have wh2:callIso pr (X pr) 134 [sl 3 vel a0,.int .i64 a1,.fn (.func 135) [] []]=some (.tup [.agg [.int .i64 v1.1.a,.int .i64 v1.1.b,.int .i64 v1.1.c,.int .i64 v1.1.d],.int .i64 v1.2],false):=W134 h2
 have hr:(v1.1,v1.2)=r:=Option.some.inj h
 subst hr
 refine iso_F rfl ?_ (fun _=>by first | rfl | simp only [go_sem,seval]) (by first | rfl | simp only [go_sem,seval])
 rw [callFn_at (show pr.fns 60=some c60 from rfl) (by simp)]
 simp only [go_sem,seval,c60,wh2]
 exact ⟨_,rfl⟩
noncomputable def f57 (a0:Option (List GEl)) (a1:Int):Option (GRat × Int):=
 obind (f131 a0 a1) fun v1=>
 some (v1.1,v1.2)
theorem W57 {a0:Option (List GEl)} {a1:Int} {r} (h:f57 a0 a1=some r):callIso pr (X pr) 57 [sl 3 vel a0,.int .i64 a1]=some (.tup [.agg [.int .i64 r.1.num,.int .i64 r.1.den],.int .i64 r.2],false):=by
 unfold f57 at h
 obtain ⟨v1,h2,h⟩:=obind_some h
 have wh2:callIso pr (X pr) 131 [sl 3 vel a0,.int .i64 a1,.fn (.func 132) [] []]=some (.tup [.agg [.int .i64 v1.1.num,.int .i64 v1.1.den],.int .i64 v1.2],false):=W131 h2
 have hr:(v1.1,v1.2)=r:=Option.some.inj h
 subst hr
 refine iso_F rfl ?_ (fun _=>by first | rfl | simp only [go_sem,seval]) (by first | rfl | simp only [go_sem,seval])
 rw [callFn_at (show pr.fns 57=some c57 from rfl) (by simp)]
 simp only [go_sem,seval,c57,wh2]
 exact ⟨_,rfl⟩
noncomputable def f165 (a0:Int) (a1:Int):Option (Int × Int):=
 obind (shrO .u64 a0 32) fun v1=>
 obind (shrO .u64 a1 32) fun v3=>
 obind (shrO .u64 (wrapF .u64 ((bitF .and .u64 a0 4294967295) * (bitF .and .u64 a1 4294967295))) 32) fun v5=>
 obind (shrO .u64 (wrapF .u64 ((wrapF .u64 (v1 * (bitF .and .u64 a1 4294967295))) + v5)) 32) fun v7=>
 obind (shrO .u64 (wrapF .u64 ((bitF .and .u64 (wrapF .u64 ((wrapF .u64 (v1 * (bitF .and .u64 a1 4294967295))) + v5)) 4294967295) + (wrapF .u64 ((bitF .and .u64 a0 4294967295) * v3)))) 32) fun v9=>
 some (wrapF .u64 ((wrapF .u64 ((wrapF .u64 (v1 * v3)) + v7)) + v9),wrapF .u64 (a0 * a1))
theorem W165 {a0:Int} {a1:Int} {r} (h:f165 a0 a1=some r):callIso pr (X pr) 165 [.int .u64 a0,.int .u64 a1]=some (.tup [.int .u64 r.1,.int .u64 r.2],false):=by
 unfold f165 at h
 obtain ⟨v1,h2,h⟩:=obind_some h
 obtain ⟨v3,h4,h⟩:=obind_some h
 obtain ⟨v5,h6,h⟩:=obind_some h
 obtain ⟨v7,h8,h⟩:=obind_some h
 obtain ⟨v9,h10,h⟩:=obind_some h
 have hr:(wrapF .u64 ((wrapF .u64 ((wrapF .u64 (v1 * v3)) + v7)) + v9),wrapF .u64 (a0 * a1))=r:=Option.some.inj h
 subst hr
 refine iso_F rfl ?_ (fun _=>by first | rfl | simp only [go_sem,seval]) (by first | rfl | simp only [go_sem,seval])
 rw [callFn_at (show pr.fns 165=some c165 from rfl) (by simp)]
 simp only [go_sem,seval,c165,b_shr_O h2,b_shr_O h4,b_shr_O h6,b_shr_O h8,b_shr_O h10]
 exact ⟨_,rfl⟩
noncomputable def f127 (a0:GRat) (a1:GRat):Option Bool:=
 obind (f165 (wrapF .u64 a0.num) (wrapF .u64 a1.den)) fun v1=>
 obind (f165 (wrapF .u64 a1.num) (wrapF .u64 a0.den)) fun v3=>
 cond (decide (v3.1 < v1.1))
  (some true)
  (cond (decide (v1.1=v3.1))
   (some (decide (v3.2 < v1.2)))
   (some false))
theorem W127 {a0:GRat} {a1:GRat} {r} (h:f127 a0 a1=some r):callIso pr (X pr) 127 [.agg [.int .i64 a0.num,.int .i64 a0.den],.agg [.int .i64 a1.num,.int .i64 a1.den]]=some (.bool r,false):=by
 unfold f127 at h
 obtain ⟨v1,h2,h⟩:=obind_some h
 have wh2:callIso pr (X pr) 165 [.int .u64 (wrapF .u64 a0.num),.int .u64 (wrapF .u64 a1.den)]=some (.tup [.int .u64 v1.1,.int .u64 v1.2],false):=W165 h2
 obtain ⟨v3,h4,h⟩:=obind_some h
 have wh4:callIso pr (X pr) 165 [.int .u64 (wrapF .u64 a1.num),.int .u64 (wrapF .u64 a0.den)]=some (.tup [.int .u64 v3.1,.int .u64 v3.2],false):=W165 h4
 rcases cond_split h with ⟨h5,h⟩ | ⟨h5,h⟩
 ·have hr:true=r:=Option.some.inj h
  subst hr
  refine iso_F rfl ?_ (fun _=>by first | rfl | simp only [go_sem,seval]) (by first | rfl | simp only [go_sem,seval])
  rw [callFn_at (show pr.fns 127=some c127 from rfl) (by simp)]
  simp only [go_sem,seval,c127,wh2,wh4,h5]
  exact ⟨_,rfl⟩
 ·rcases cond_split h with ⟨h6,h⟩ | ⟨h6,h⟩
  ·have hr:decide (v3.2 < v1.2)=r:=Option.some.inj h
   subst hr
   refine iso_F rfl ?_ (fun _=>by first | rfl | simp only [go_sem,seval]) (by first | rfl | simp only [go_sem,seval])
   rw [callFn_at (show pr.fns 127=some c127 from rfl) (by simp)]
   simp only [go_sem,seval,c127,wh2,wh4,h5,h6]
   exact ⟨_,rfl⟩
  ·have hr:false=r:=Option.some.inj h
   subst hr
   refine iso_F rfl ?_ (fun _=>by first | rfl | simp only [go_sem,seval]) (by first | rfl | simp only [go_sem,seval])
   rw [callFn_at (show pr.fns 127=some c127 from rfl) (by simp)]
   simp only [go_sem,seval,c127,wh2,wh4,h5,h6]
   exact ⟨_,rfl⟩
noncomputable def f121 (a0:Option (List GEl)):Option Int:=
 obind (f158 a0) fun v1=>
 obind (f106 (decide (2 < ((a0.getD []).length:Int))) 5) fun v3=>
 obind (f105 (some [v1,v3])) fun v5=>
 some v5
theorem W121 {a0:Option (List GEl)} {r} (h:f121 a0=some r):callIso pr (X pr) 121 [sl 3 vel a0]=some (.int .i64 r,false):=by
 unfold f121 at h
 obtain ⟨v1,h2,h⟩:=obind_some h
 obtain ⟨v3,h4,h⟩:=obind_some h
 have wh4:callIso pr (X pr) 106 [.bool (decide (2 < ((a0.getD []).length:Int))),.int .i64 5]=some (.int .i64 v3,false):=W106 h4
 obtain ⟨v5,h6,h⟩:=obind_some h
 have wh6:callIso pr (X pr) 105 [.list false 1 [.int .i64 v1,.int .i64 v3]]=some (.int .i64 v5,false):=W105 h6
 have hr:v5=r:=Option.some.inj h
 subst hr
 refine iso_F rfl ?_ (fun _=>by first | rfl | simp only [go_sem,seval]) (by first | rfl | simp only [go_sem,seval])
 rw [callFn_at (show pr.fns 121=some c121 from rfl) (by simp)]
 simp only [go_sem,seval,c121,W158 h2,wh4,wh6]
 exact ⟨_,rfl⟩
noncomputable def f45 (a0:Option (List GEl)) (a1:Option (List GEl)) (a2:Int) (a3:Bool):Option (GQuad × Int):=
 obind (f121 a0) fun v1=>
 obind (f121 a1) fun v3=>
 obind (f122 a2) fun v5=>
 obind (f105 (some [v1,v3,v5])) fun v7=>
 cond (decide (v7=0))
  (obind (f60 a0 a2) fun v10=>
  cond (decide (v10.2=0))
   (obind (f60 a1 a2) fun v13=>
   cond (decide (v13.2=0))
    (cond a3
     (obind (f124 (⟨v10.1.a,v10.1.b⟩) (⟨v13.1.c,v13.1.d⟩)) fun v17=>
     obind (f124 (⟨v13.1.a,v13.1.b⟩) (⟨v10.1.c,v10.1.d⟩)) fun v19=>
     obind (f124 (⟨(-1),0⟩) v19) fun v21=>
     obind (f123 v17 v21) fun v23=>
     obind (f124 (⟨v10.1.c,v10.1.d⟩) (⟨v13.1.c,v13.1.d⟩)) fun v25=>
     some (⟨v23.num,v23.den,v25.num,v25.den⟩,0))
     (obind (f124 (⟨v10.1.a,v10.1.b⟩) (⟨v13.1.c,v13.1.d⟩)) fun v27=>
     obind (f124 (⟨v13.1.a,v13.1.b⟩) (⟨v10.1.c,v10.1.d⟩)) fun v29=>
     obind (f124 (⟨1,0⟩) v29) fun v31=>
     obind (f123 v27 v31) fun v33=>
     obind (f124 (⟨v10.1.c,v10.1.d⟩) (⟨v13.1.c,v13.1.d⟩)) fun v35=>
     some (⟨v33.num,v33.den,v35.num,v35.den⟩,0)))
    (some (⟨0,0,0,0⟩,v13.2)))
   (some (⟨0,0,0,0⟩,v10.2)))
  (some (⟨0,0,0,0⟩,v7))
theorem W45 {a0:Option (List GEl)} {a1:Option (List GEl)} {a2:Int} {a3:Bool} {r} (h:f45 a0 a1 a2 a3=some r):callIso pr (X pr) 45 [sl 3 vel a0,sl 3 vel a1,.int .i64 a2,.bool a3]=some (.tup [.agg [.int .i64 r.1.a,.int .i64 r.1.b,.int .i64 r.1.c,.int .i64 r.1.d],.int .i64 r.2],false):=by
 unfold f45 at h
 obtain ⟨v1,h2,h⟩:=obind_some h
 obtain ⟨v3,h4,h⟩:=obind_some h
 obtain ⟨v5,h6,h⟩:=obind_some h
 obtain ⟨v7,h8,h⟩:=obind_some h
 have wh8:callIso pr (X pr) 105 [.list false 1 [.int .i64 v1,.int .i64 v3,.int .i64 v5]]=some (.int .i64 v7,false):=W105 h8
 rcases cond_split h with ⟨h9,h⟩ | ⟨h9,h⟩
 ·obtain ⟨v10,h11,h⟩:=obind_some h
  rcases cond_split h with ⟨h12,h⟩ | ⟨h12,h⟩
  ·obtain ⟨v13,h14,h⟩:=obind_some h
   rcases cond_split h with ⟨h15,h⟩ | ⟨h15,h⟩
   ·rcases cond_split h with ⟨h16,h⟩ | ⟨h16,h⟩
    ·obtain ⟨v17,h18,h⟩:=obind_some h
     have wh18:callIso pr (X pr) 124 [.agg [.int .i64 v10.1.a,.int .i64 v10.1.b],.agg [.int .i64 v13.1.c,.int .i64 v13.1.d]]=some (.agg [.int .i64 v17.num,.int .i64 v17.den],false):=W124 h18
     obtain ⟨v19,h20,h⟩:=obind_some h
     have wh20:callIso pr (X pr) 124 [.agg [.int .i64 v13.1.a,.int .i64 v13.1.b],.agg [.int .i64 v10.1.c,.int .i64 v10.1.d]]=some (.agg [.int .i64 v19.num,.int .i64 v19.den],false):=W124 h20
     obtain ⟨v21,h22,h⟩:=obind_some h
     have wh22:callIso pr (X pr) 124 [.agg [.int .i64 (-1),.int .i64 0],.agg [.int .i64 v19.num,.int .i64 v19.den]]=some (.agg [.int .i64 v21.num,.int .i64 v21.den],false):=W124 h22
     obtain ⟨v23,h24,h⟩:=obind_some h
     have wh24:callIso pr (X pr) 123 [.agg [.int .i64 v17.num,.int .i64 v17.den],.agg [.int .i64 v21.num,.int .i64 v21.den]]=some (.agg [.int .i64 v23.num,.int .i64 v23.den],false):=W123 h24
     obtain ⟨v25,h26,h⟩:=obind_some h
     have wh26:callIso pr (X pr) 124 [.agg [.int .i64 v10.1.c,.int .i64 v10.1.d],.agg [.int .i64 v13.1.c,.int .i64 v13.1.d]]=some (.agg [.int .i64 v25.num,.int .i64 v25.den],false):=W124 h26
     have hr:(⟨v23.num,v23.den,v25.num,v25.den⟩,0)=r:=Option.some.inj h
     subst hr
     refine iso_F rfl ?_ (fun _=>by first | rfl | simp only [go_sem,seval]) (by first | rfl | simp only [go_sem,seval])
     rw [callFn_at (show pr.fns 45=some c45 from rfl) (by simp)]
     simp only [go_sem,seval,c45,W121 h2,W121 h4,W122 h6,wh8,h9,W60 h11,h12,W60 h14,h15,h16,wh18,wh20,wh22,wh24,wh26]
     exact ⟨_,rfl⟩
    ·obtain ⟨v27,h28,h⟩:=obind_some h
     have wh28:callIso pr (X pr) 124 [.agg [.int .i64 v10.1.a,.int .i64 v10.1.b],.agg [.int .i64 v13.1.c,.int .i64 v13.1.d]]=some (.agg [.int .i64 v27.num,.int .i64 v27.den],false):=W124 h28
     obtain ⟨v29,h30,h⟩:=obind_some h
     have wh30:callIso pr (X pr) 124 [.agg [.int .i64 v13.1.a,.int .i64 v13.1.b],.agg [.int .i64 v10.1.c,.int .i64 v10.1.d]]=some (.agg [.int .i64 v29.num,.int .i64 v29.den],false):=W124 h30
     obtain ⟨v31,h32,h⟩:=obind_some h
     have wh32:callIso pr (X pr) 124 [.agg [.int .i64 1,.int .i64 0],.agg [.int .i64 v29.num,.int .i64 v29.den]]=some (.agg [.int .i64 v31.num,.int .i64 v31.den],false):=W124 h32
     obtain ⟨v33,h34,h⟩:=obind_some h
     have wh34:callIso pr (X pr) 123 [.agg [.int .i64 v27.num,.int .i64 v27.den],.agg [.int .i64 v31.num,.int .i64 v31.den]]=some (.agg [.int .i64 v33.num,.int .i64 v33.den],false):=W123 h34
     obtain ⟨v35,h36,h⟩:=obind_some h
     have wh36:callIso pr (X pr) 124 [.agg [.int .i64 v10.1.c,.int .i64 v10.1.d],.agg [.int .i64 v13.1.c,.int .i64 v13.1.d]]=some (.agg [.int .i64 v35.num,.int .i64 v35.den],false):=W124 h36
     have hr:(⟨v33.num,v33.den,v35.num,v35.den⟩,0)=r:=Option.some.inj h
     subst hr
     refine iso_F rfl ?_ (fun _=>by first | rfl | simp only [go_sem,seval]) (by first | rfl | simp only [go_sem,seval])
     rw [callFn_at (show pr.fns 45=some c45 from rfl) (by simp)]
     simp only [go_sem,seval,c45,W121 h2,W121 h4,W122 h6,wh8,h9,W60 h11,h12,W60 h14,h15,h16,wh28,wh30,wh32,wh34,wh36]
     exact ⟨_,rfl⟩
   ·have hr:(⟨0,0,0,0⟩,v13.2)=r:=Option.some.inj h
    subst hr
    refine iso_F rfl ?_ (fun _=>by first | rfl | simp only [go_sem,seval]) (by first | rfl | simp only [go_sem,seval])
    rw [callFn_at (show pr.fns 45=some c45 from rfl) (by simp)]
    simp only [go_sem,seval,c45,W121 h2,W121 h4,W122 h6,wh8,h9,W60 h11,h12,W60 h14,h15]
    exact ⟨_,rfl⟩
  ·have hr:(⟨0,0,0,0⟩,v10.2)=r:=Option.some.inj h
   subst hr
   refine iso_F rfl ?_ (fun _=>by first | rfl | simp only [go_sem,seval]) (by first | rfl | simp only [go_sem,seval])
   rw [callFn_at (show pr.fns 45=some c45 from rfl) (by simp)]
   simp only [go_sem,seval,c45,W121 h2,W121 h4,W122 h6,wh8,h9,W60 h11,h12]
   exact ⟨_,rfl⟩
 ·have hr:(⟨0,0,0,0⟩,v7)=r:=Option.some.inj h
  subst hr
  refine iso_F rfl ?_ (fun _=>by first | rfl | simp only [go_sem,seval]) (by first | rfl | simp only [go_sem,seval])
  rw [callFn_at (show pr.fns 45=some c45 from rfl) (by simp)]
  simp only [go_sem,seval,c45,W121 h2,W121 h4,W122 h6,wh8,h9]
  exact ⟨_,rfl⟩
noncomputable def f47 (a0:Option (List GEl)) (a1:Option (List GEl)) (a2:Int) (a3:Bool):Option (GRat × Int):=
 obind (f45 a0 a1 a2 a3) fun v1=>
 cond (decide (v1.2=0))
  (obind (f126 (⟨v1.1.a,v1.1.b⟩)) fun v4=>
  obind (f126 (⟨v1.1.c,v1.1.d⟩)) fun v6=>
  obind (f125 v4 v6) fun v8=>
  some (v8,0))
  (some (⟨0,0⟩,v1.2))
theorem W47 {a0:Option (List GEl)} {a1:Option (List GEl)} {a2:Int} {a3:Bool} {r} (h:f47 a0 a1 a2 a3=some r):callIso pr (X pr) 47 [sl 3 vel a0,sl 3 vel a1,.int .i64 a2,.bool a3]=some (.tup [.agg [.int .i64 r.1.num,.int .i64 r.1.den],.int .i64 r.2],false):=by
 unfold f47 at h
 obtain ⟨v1,h2,h⟩:=obind_some h
 rcases cond_split h with ⟨h3,h⟩ | ⟨h3,h⟩
 ·obtain ⟨v4,h5,h⟩:=obind_some h
  have wh5:callIso pr (X pr) 126 [.agg [.int .i64 v1.1.a,.int .i64 v1.1.b]]=some (.int .i64 v4,false):=W126 h5
  obtain ⟨v6,h7,h⟩:=obind_some h
  have wh7:callIso pr (X pr) 126 [.agg [.int .i64 v1.1.c,.int .i64 v1.1.d]]=some (.int .i64 v6,false):=W126 h7
  obtain ⟨v8,h9,h⟩:=obind_some h
  have hr:(v8,0)=r:=Option.some.inj h
  subst hr
  refine iso_F rfl ?_ (fun _=>by first | rfl | simp only [go_sem,seval]) (by first | rfl | simp only [go_sem,seval])
  rw [callFn_at (show pr.fns 47=some c47 from rfl) (by simp)]
  simp only [go_sem,seval,c47,W45 h2,h3,wh5,wh7,W125 h9]
  exact ⟨_,rfl⟩
 ·have hr:(⟨0,0⟩,v1.2)=r:=Option.some.inj h
  subst hr
  refine iso_F rfl ?_ (fun _=>by first | rfl | simp only [go_sem,seval]) (by first | rfl | simp only [go_sem,seval])
  rw [callFn_at (show pr.fns 47=some c47 from rfl) (by simp)]
  simp only [go_sem,seval,c47,W45 h2,h3]
  exact ⟨_,rfl⟩
noncomputable def s48_0 (a0:Option (List GEl)) (a1:Option (List GEl)) (a3:Int) (s0:Int × Int):Option ((Int × Int) ⊕ ((Int × Int × Int × Int × Int) ⊕ (Int × Int))):=
 cond (decide (s0.2≤a3))
  (obind (f57 a0 s0.2) fun v38=>
  obind (f57 a1 s0.2) fun v40=>
  obind (f105 (some [v38.2,v40.2])) fun v42=>
  cond (decide (v42=0))
   (cond (decide (s0.1=0))
    (obind (f127 v38.1 v40.1) fun v46=>
    cond v46
     (some (.inl (s0.1,wrapF .i64 (s0.2 + 1))))
     (some (.inl (s0.2,wrapF .i64 (s0.2 + 1)))))
    (some (.inl (s0.1,wrapF .i64 (s0.2 + 1)))))
   (some (.inr (.inl (v42,v38.1.num,v38.1.den,v40.1.num,v40.1.den)))))
  (some (.inr (.inr (s0.1,s0.2))))
def St48_0 (a0:Option (List GEl)) (a1:Option (List GEl)) (a3:Int) (s0:Int × Int):ASt:=⟨[(0,sl 3 vel a0,false),(1,sl 3 vel a1,false),(3,.int .i64 a3,false),(11,.int .i64 s0.1,false),(12,.int .i64 s0.2,false)],[]⟩
def Ex48_0 (a0:Option (List GEl)) (a1:Option (List GEl)) (a3:Int):(Int × Int × Int × Int × Int) ⊕ (Int × Int)→AExit × ASt
 | .inl d=>(.ret,⟨[(8,.int .i64 0,false),(9,.int .i64 d.1,false)],[.cells [(.int .i64 d.2.1,false),(.int .i64 d.2.2.1,false)],.cells [(.int .i64 d.2.2.2.1,false),(.int .i64 d.2.2.2.2,false)]]⟩)
 | .inr d=>(.exit 0,⟨[(0,sl 3 vel a0,false),(1,sl 3 vel a1,false),(3,.int .i64 a3,false),(11,.int .i64 d.1,false),(12,.int .i64 d.2,false),(37,.bool false,false)],[]⟩)
theorem b48_0 (a0:Option (List GEl)) (a1:Option (List GEl)) (a3:Int) (s0:Int × Int) (r) (h:s48_0 a0 a1 a3 s0=some r):stepO pr c48_0 (St48_0 a0 a1 a3) (Ex48_0 a0 a1 a3) s0 r:=by
 unfold s48_0 at h
 rcases cond_split h with ⟨h37,h⟩ | ⟨h37,h⟩
 ·obtain ⟨v38,h39,h⟩:=obind_some h
  have wh39:callIso pr (X pr) 57 [sl 3 vel a0,.int .i64 s0.2]=some (.tup [.agg [.int .i64 v38.1.num,.int .i64 v38.1.den],.int .i64 v38.2],false):=W57 h39
  obtain ⟨v40,h41,h⟩:=obind_some h
  have wh41:callIso pr (X pr) 57 [sl 3 vel a1,.int .i64 s0.2]=some (.tup [.agg [.int .i64 v40.1.num,.int .i64 v40.1.den],.int .i64 v40.2],false):=W57 h41
  obtain ⟨v42,h43,h⟩:=obind_some h
  have wh43:callIso pr (X pr) 105 [.list false 1 [.int .i64 v38.2,.int .i64 v40.2]]=some (.int .i64 v42,false):=W105 h43
  rcases cond_split h with ⟨h44,h⟩ | ⟨h44,h⟩
  ·rcases cond_split h with ⟨h45,h⟩ | ⟨h45,h⟩
   ·obtain ⟨v46,h47,h⟩:=obind_some h
    have wh47:callIso pr (X pr) 127 [.agg [.int .i64 v38.1.num,.int .i64 v38.1.den],.agg [.int .i64 v40.1.num,.int .i64 v40.1.den]]=some (.bool v46,false):=W127 h47
    rcases cond_split h with ⟨h48,h⟩ | ⟨h48,h⟩
    ·cases h
     exact stepO_in (st':=⟨[(0,sl 3 vel a0,false),(1,sl 3 vel a1,false),(3,.int .i64 a3,false),(11,.int .i64 s0.1,false),(12,.int .i64 (wrapF .i64 (s0.2 + 1)),false)],[]++[.cells [(.int .i64 v38.1.num,false),(.int .i64 v38.1.den,false)],.cells [(.int .i64 v40.1.num,false),(.int .i64 v40.1.den,false)]]⟩) (by simp only [go_sem,seval,c48_0,St48_0,h37,wh39,wh41,wh43,h44,h45,wh47,h48] <;> rfl) (gc_over rfl rfl (by first | simp only [go_sem,seval,St48_0] | rfl) (by first | simp only [go_sem,seval,St48_0] | rfl))
    ·cases h
     exact stepO_in (st':=⟨[(0,sl 3 vel a0,false),(1,sl 3 vel a1,false),(3,.int .i64 a3,false),(11,.int .i64 s0.2,false),(12,.int .i64 (wrapF .i64 (s0.2 + 1)),false)],[]++[.cells [(.int .i64 v38.1.num,false),(.int .i64 v38.1.den,false)],.cells [(.int .i64 v40.1.num,false),(.int .i64 v40.1.den,false)]]⟩) (by simp only [go_sem,seval,c48_0,St48_0,h37,wh39,wh41,wh43,h44,h45,wh47,h48] <;> rfl) (gc_over rfl rfl (by first | simp only [go_sem,seval,St48_0] | rfl) (by first | simp only [go_sem,seval,St48_0] | rfl))
   ·cases h
    exact stepO_in (st':=⟨[(0,sl 3 vel a0,false),(1,sl 3 vel a1,false),(3,.int .i64 a3,false),(11,.int .i64 s0.1,false),(12,.int .i64 (wrapF .i64 (s0.2 + 1)),false)],[]++[.cells [(.int .i64 v38.1.num,false),(.int .i64 v38.1.den,false)],.cells [(.int .i64 v40.1.num,false),(.int .i64 v40.1.den,false)]]⟩) (by simp only [go_sem,seval,c48_0,St48_0,h37,wh39,wh41,wh43,h44,h45] <;> rfl) (gc_over rfl rfl (by first | simp only [go_sem,seval,St48_0] | rfl) (by first | simp only [go_sem,seval,St48_0] | rfl))
  ·cases h
   exact stepO_out (by simp only [go_sem,seval,c48_0,St48_0,h37,wh39,wh41,wh43,h44,Ex48_0] <;> rfl)
 ·cases h
  exact stepO_out (by simp only [go_sem,seval,c48_0,St48_0,h37,Ex48_0] <;> rfl)
theorem l48_0 (a0:Option (List GEl)) (a1:Option (List GEl)) (a3:Int) {s0:Int × Int} {d} (h:itO (s48_0 a0 a1 a3) s0=some d):X pr (.loop c48_0) (St48_0 a0 a1 a3 s0)=some (Ex48_0 a0 a1 a3 d):=X_itO (b48_0 a0 a1 a3) (fun d=>by rcases d with d|d <;> (intro hh; cases hh)) h
noncomputable def f48 (a0:Option (List GEl)) (a1:Option (List GEl)) (a2:Int) (a3:Int):Option (Int × Int):=
 obind (f121 a0) fun v1=>
 obind (f121 a1) fun v3=>
 obind (f122 a2) fun v5=>
 obind (f122 a3) fun v7=>
 obind (f106 (decide (a3 < a2)) 11) fun v9=>
 obind (f105 (some [v1,v3,v5,v7,v9])) fun v11=>
 cond (decide (v11=0))
  (obind (itO (s48_0 a0 a1 a3) (0,a2)) fun d49=>match d49 with
   | .inl d51=>
    some (0,d51.1)
   | .inr d52=>
    obind (f106 (decide (d52.1=0)) 7) fun v53=>
    some (d52.1,v53))
  (some (0,v11))
theorem W48 {a0:Option (List GEl)} {a1:Option (List GEl)} {a2:Int} {a3:Int} {r} (h:f48 a0 a1 a2 a3=some r):callIso pr (X pr) 48 [sl 3 vel a0,sl 3 vel a1,.int .i64 a2,.int .i64 a3]=some (.tup [.int .i64 r.1,.int .i64 r.2],false):=by
 unfold f48 at h
 obtain ⟨v1,h2,h⟩:=obind_some h
 obtain ⟨v3,h4,h⟩:=obind_some h
 obtain ⟨v5,h6,h⟩:=obind_some h
 obtain ⟨v7,h8,h⟩:=obind_some h
 obtain ⟨v9,h10,h⟩:=obind_some h
 have wh10:callIso pr (X pr) 106 [.bool (decide (a3 < a2)),.int .i64 11]=some (.int .i64 v9,false):=W106 h10
 obtain ⟨v11,h12,h⟩:=obind_some h
 have wh12:callIso pr (X pr) 105 [.list false 1 [.int .i64 v1,.int .i64 v3,.int .i64 v5,.int .i64 v7,.int .i64 v9]]=some (.int .i64 v11,false):=W105 h12
 rcases cond_split h with ⟨h13,h⟩ | ⟨h13,h⟩
 ·obtain ⟨d49,h50,h⟩:=obind_some h
  rcases d49 with d51 | d52
  ·have wh50:X pr (.loop c48_0) ⟨[(0,sl 3 vel a0,false),(1,sl 3 vel a1,false),(3,.int .i64 a3,false),(11,.int .i64 0,false),(12,.int .i64 a2,false)],[]⟩=some (.ret,⟨[(8,.int .i64 0,false),(9,.int .i64 d51.1,false)],[.cells [(.int .i64 d51.2.1,false),(.int .i64 d51.2.2.1,false)],.cells [(.int .i64 d51.2.2.2.1,false),(.int .i64 d51.2.2.2.2,false)]]⟩):=l48_0 a0 a1 a3 h50
   have hr:(0,d51.1)=r:=Option.some.inj h
   subst hr
   refine iso_F rfl ?_ (fun _=>by first | rfl | simp only [go_sem,seval]) (by first | rfl | simp only [go_sem,seval])
   rw [callFn_at (show pr.fns 48=some c48 from rfl) (by simp)]
   simp only [go_sem,seval,c48,W121 h2,W121 h4,W122 h6,W122 h8,wh10,wh12,h13,wh50]
   exact ⟨_,rfl⟩
  ·have wh50:X pr (.loop c48_0) ⟨[(0,sl 3 vel a0,false),(1,sl 3 vel a1,false),(3,.int .i64 a3,false),(11,.int .i64 0,false),(12,.int .i64 a2,false)],[]⟩=some (.exit 0,⟨[(0,sl 3 vel a0,false),(1,sl 3 vel a1,false),(3,.int .i64 a3,false),(11,.int .i64 d52.1,false),(12,.int .i64 d52.2,false),(37,.bool false,false)],[]⟩):=l48_0 a0 a1 a3 h50
   obtain ⟨v53,h54,h⟩:=obind_some h
   have wh54:callIso pr (X pr) 106 [.bool (decide (d52.1=0)),.int .i64 7]=some (.int .i64 v53,false):=W106 h54
   have hr:(d52.1,v53)=r:=Option.some.inj h
   subst hr
   refine iso_F rfl ?_ (fun _=>by first | rfl | simp only [go_sem,seval]) (by first | rfl | simp only [go_sem,seval])
   rw [callFn_at (show pr.fns 48=some c48 from rfl) (by simp)]
   simp only [go_sem,seval,c48,W121 h2,W121 h4,W122 h6,W122 h8,wh10,wh12,h13,wh50,wh54]
   exact ⟨_,rfl⟩
 ·have hr:(0,v11)=r:=Option.some.inj h
  subst hr
  refine iso_F rfl ?_ (fun _=>by first | rfl | simp only [go_sem,seval]) (by first | rfl | simp only [go_sem,seval])
  rw [callFn_at (show pr.fns 48=some c48 from rfl) (by simp)]
  simp only [go_sem,seval,c48,W121 h2,W121 h4,W122 h6,W122 h8,wh10,wh12,h13]
  exact ⟨_,rfl⟩
noncomputable def F58 (rec:GRat→GRat→Option Bool) (a0:GRat) (a1:GRat):Option Bool:=
 obind (quoO .i64 a0.num a0.den) fun v1=>
 obind (quoO .i64 a1.num a1.den) fun v3=>
 cond (decide (v1=v3))
  (obind (remO a0.num a0.den) fun v6=>
  obind (remO a1.num a1.den) fun v8=>
  cond (decide (v6=0))
   (some (!decide (v8=0)))
   (cond (decide (v8=0))
    (some false)
    (obind (rec (⟨a1.den,v8⟩) (⟨a0.den,v6⟩)) fun v12=>
    some v12)))
  (some (decide (v1 < v3)))
theorem WF58 {rec:GRat→GRat→Option Bool} (hrec:∀ {a0:GRat} {a1:GRat} {r},rec a0 a1=some r→callIso pr (X pr) 58 [.agg [.int .i64 a0.num,.int .i64 a0.den],.agg [.int .i64 a1.num,.int .i64 a1.den]]=some (.bool r,false)) {a0:GRat} {a1:GRat} {r} (h:F58 rec a0 a1=some r):callIso pr (X pr) 58 [.agg [.int .i64 a0.num,.int .i64 a0.den],.agg [.int .i64 a1.num,.int .i64 a1.den]]=some (.bool r,false):=by
 unfold F58 at h
 obtain ⟨v1,h2,h⟩:=obind_some h
 obtain ⟨v3,h4,h⟩:=obind_some h
 rcases cond_split h with ⟨h5,h⟩ | ⟨h5,h⟩
 ·obtain ⟨v6,h7,h⟩:=obind_some h
  obtain ⟨v8,h9,h⟩:=obind_some h
  rcases cond_split h with ⟨h10,h⟩ | ⟨h10,h⟩
  ·have hr:(!decide (v8=0))=r:=Option.some.inj h
   subst hr
   refine iso_F rfl ?_ (fun _=>by first | rfl | simp only [go_sem,seval]) (by first | rfl | simp only [go_sem,seval])
   rw [callFn_at (show pr.fns 58=some c58 from rfl) (by simp)]
   simp only [go_sem,seval,c58,b_quo_O h2,b_quo_O h4,h5,b_rem_O h7,b_rem_O h9,h10]
   exact ⟨_,rfl⟩
  ·rcases cond_split h with ⟨h11,h⟩ | ⟨h11,h⟩
   ·have hr:false=r:=Option.some.inj h
    subst hr
    refine iso_F rfl ?_ (fun _=>by first | rfl | simp only [go_sem,seval]) (by first | rfl | simp only [go_sem,seval])
    rw [callFn_at (show pr.fns 58=some c58 from rfl) (by simp)]
    simp only [go_sem,seval,c58,b_quo_O h2,b_quo_O h4,h5,b_rem_O h7,b_rem_O h9,h10,h11]
    exact ⟨_,rfl⟩
   ·obtain ⟨v12,h13,h⟩:=obind_some h
    have wh13:callIso pr (X pr) 58 [.agg [.int .i64 a1.den,.int .i64 v8],.agg [.int .i64 a0.den,.int .i64 v6]]=some (.bool v12,false):=hrec h13
    have hr:v12=r:=Option.some.inj h
    subst hr
    refine iso_F rfl ?_ (fun _=>by first | rfl | simp only [go_sem,seval]) (by first | rfl | simp only [go_sem,seval])
    rw [callFn_at (show pr.fns 58=some c58 from rfl) (by simp)]
    simp only [go_sem,seval,c58,b_quo_O h2,b_quo_O h4,h5,b_rem_O h7,b_rem_O h9,h10,h11,wh13]
    exact ⟨_,rfl⟩
 ·have hr:decide (v1 < v3)=r:=Option.some.inj h
  subst hr
  refine iso_F rfl ?_ (fun _=>by first | rfl | simp only [go_sem,seval]) (by first | rfl | simp only [go_sem,seval])
  rw [callFn_at (show pr.fns 58=some c58 from rfl) (by simp)]
  simp only [go_sem,seval,c58,b_quo_O h2,b_quo_O h4,h5]
  exact ⟨_,rfl⟩
noncomputable def f58:Nat→GRat→GRat→Option Bool
 | 0=>fun _ _=>none
 | n + 1=>F58 (f58 n)
theorem W58:∀ (n:Nat) {a0:GRat} {a1:GRat} {r} (h:f58 n a0 a1=some r),callIso pr (X pr) 58 [.agg [.int .i64 a0.num,.int .i64 a0.den],.agg [.int .i64 a1.num,.int .i64 a1.den]]=some (.bool r,false)
 | 0,_,_,_,h=>by cases h
 | n + 1,_,_,_,h=>WF58 (W58 n) h
noncomputable def f34 (a0:Int):Option Int:=
 obind (f40 a0 1 8) fun v1=>
 some v1
theorem W34 {a0:Int} {r} (h:f34 a0=some r):callIso pr (X pr) 34 [.int .i64 a0]=some (.int .i64 r,false):=by
 unfold f34 at h
 obtain ⟨v1,h2,h⟩:=obind_some h
 have hr:v1=r:=Option.some.inj h
 subst hr
 refine iso_F rfl ?_ (fun _=>by first | rfl | simp only [go_sem,seval]) (by first | rfl | simp only [go_sem,seval])
 rw [callFn_at (show pr.fns 34=some c34 from rfl) (by simp)]
 simp only [go_sem,seval,c34,W40 h2]
 exact ⟨_,rfl⟩
noncomputable def f49 (a0:Option (List GEl)):Option Int:=
 obind (f103 a0) fun v1=>
 obind (f101 (decide (2 < ((a0.getD []).length:Int))) 5) fun v3=>
 obind (f100 (some [v1,v3])) fun v5=>
 some v5
theorem W49 {a0:Option (List GEl)} {r} (h:f49 a0=some r):callIso pr (X pr) 49 [sl 3 vel a0]=some (.int .i64 r,false):=by
 unfold f49 at h
 obtain ⟨v1,h2,h⟩:=obind_some h
 obtain ⟨v3,h4,h⟩:=obind_some h
 have wh4:callIso pr (X pr) 101 [.bool (decide (2 < ((a0.getD []).length:Int))),.int .i64 5]=some (.int .i64 v3,false):=W101 h4
 obtain ⟨v5,h6,h⟩:=obind_some h
 have wh6:callIso pr (X pr) 100 [.list false 1 [.int .i64 v1,.int .i64 v3]]=some (.int .i64 v5,false):=W100 h6
 have hr:v5=r:=Option.some.inj h
 subst hr
 refine iso_F rfl ?_ (fun _=>by first | rfl | simp only [go_sem,seval]) (by first | rfl | simp only [go_sem,seval])
 rw [callFn_at (show pr.fns 49=some c49 from rfl) (by simp)]
 simp only [go_sem,seval,c49,W103 h2,wh4,wh6]
 exact ⟨_,rfl⟩
noncomputable def f50 (a0:Int) (a1:Int):Option Int:=
 obind (f34 a0) fun v1=>
 obind (f34 a1) fun v3=>
 obind (f101 (decide (a1 < a0)) 11) fun v5=>
 obind (f100 (some [v1,v3,v5])) fun v7=>
 some v7
theorem W50 {a0:Int} {a1:Int} {r} (h:f50 a0 a1=some r):callIso pr (X pr) 50 [.int .i64 a0,.int .i64 a1]=some (.int .i64 r,false):=by
 unfold f50 at h
 obtain ⟨v1,h2,h⟩:=obind_some h
 obtain ⟨v3,h4,h⟩:=obind_some h
 obtain ⟨v5,h6,h⟩:=obind_some h
 have wh6:callIso pr (X pr) 101 [.bool (decide (a1 < a0)),.int .i64 11]=some (.int .i64 v5,false):=W101 h6
 obtain ⟨v7,h8,h⟩:=obind_some h
 have wh8:callIso pr (X pr) 100 [.list false 1 [.int .i64 v1,.int .i64 v3,.int .i64 v5]]=some (.int .i64 v7,false):=W100 h8
 have hr:v7=r:=Option.some.inj h
 subst hr
 refine iso_F rfl ?_ (fun _=>by first | rfl | simp only [go_sem,seval]) (by first | rfl | simp only [go_sem,seval])
 rw [callFn_at (show pr.fns 50=some c50 from rfl) (by simp)]
 simp only [go_sem,seval,c50,W34 h2,W34 h4,wh6,wh8]
 exact ⟨_,rfl⟩
noncomputable def s44_0 (a0:Option (List GEl)) (s0:Int):Option (Int ⊕ (Unit ⊕ Int)):=
 cond (decide (s0 < ((a0.getD []).length:Int)))
  (obind (idxO (a0.getD []) s0) fun v11=>
  cond (decide (60 < (v11.kind.length:Int)))
   (some (.inr (.inl ())))
   (some (.inl (wrapF .i64 (s0 + 1)))))
  (some (.inr (.inr s0)))
def St44_0 (a0:Option (List GEl)) (s0:Int):ASt:=⟨[(0,sl 3 vel a0,false),(3,.int .i64 s0,false)],[]⟩
def Ex44_0 (a0:Option (List GEl)):Unit ⊕ Int→AExit × ASt
 | .inl d=>(.ret,⟨[(2,.bool false,false)],[]⟩)
 | .inr d=>(.exit 0,⟨[(0,sl 3 vel a0,false),(3,.int .i64 d,false),(10,.bool false,false)],[]⟩)
theorem b44_0 (a0:Option (List GEl)) (s0:Int) (r) (h:s44_0 a0 s0=some r):stepO pr c44_0 (St44_0 a0) (Ex44_0 a0) s0 r:=by
 unfold s44_0 at h
 rcases cond_split h with ⟨h10,h⟩ | ⟨h10,h⟩
 ·obtain ⟨v11,h12,h⟩:=obind_some h
  rcases cond_split h with ⟨h13,h⟩ | ⟨h13,h⟩
  ·cases h
   exact stepO_out (by simp only [go_sem,seval,c44_0,St44_0,h10,idxR_O h12,h13,Ex44_0] <;> rfl)
  ·cases h
   exact stepO_in (st':=⟨[(0,sl 3 vel a0,false),(3,.int .i64 (wrapF .i64 (s0 + 1)),false)],[]⟩) (by simp only [go_sem,seval,c44_0,St44_0,h10,idxR_O h12,h13] <;> rfl) (gc_same (Nat.le_refl _))
 ·cases h
  exact stepO_out (by simp only [go_sem,seval,c44_0,St44_0,h10,Ex44_0] <;> rfl)
theorem l44_0 (a0:Option (List GEl)) {s0:Int} {d} (h:itO (s44_0 a0) s0=some d):X pr (.loop c44_0) (St44_0 a0 s0)=some (Ex44_0 a0 d):=X_itO (b44_0 a0) (fun d=>by rcases d with d|d <;> (intro hh; cases hh)) h
noncomputable def f44 (a0:Option (List GEl)):Option Bool:=
 cond (decide (6 < ((a0.getD []).length:Int)))
  (some false)
  (obind (itO (s44_0 a0) 0) fun d14=>match d14 with
   | .inl d16=>
    some false
   | .inr d17=>
    some true)
theorem W44 {a0:Option (List GEl)} {r} (h:f44 a0=some r):callIso pr (X pr) 44 [sl 3 vel a0]=some (.bool r,false):=by
 unfold f44 at h
 rcases cond_split h with ⟨h1,h⟩ | ⟨h1,h⟩
 ·have hr:false=r:=Option.some.inj h
  subst hr
  refine iso_F rfl ?_ (fun _=>by first | rfl | simp only [go_sem,seval]) (by first | rfl | simp only [go_sem,seval])
  rw [callFn_at (show pr.fns 44=some c44 from rfl) (by simp)]
  simp only [go_sem,seval,c44,h1]
  exact ⟨_,rfl⟩
 ·obtain ⟨d14,h15,h⟩:=obind_some h
  rcases d14 with d16 | d17
  ·have wh15:X pr (.loop c44_0) ⟨[(0,sl 3 vel a0,false),(3,.int .i64 0,false)],[]⟩=some (.ret,⟨[(2,.bool false,false)],[]⟩):=l44_0 a0 h15
   have hr:false=r:=Option.some.inj h
   subst hr
   refine iso_F rfl ?_ (fun _=>by first | rfl | simp only [go_sem,seval]) (by first | rfl | simp only [go_sem,seval])
   rw [callFn_at (show pr.fns 44=some c44 from rfl) (by simp)]
   simp only [go_sem,seval,c44,h1,wh15]
   exact ⟨_,rfl⟩
  ·have wh15:X pr (.loop c44_0) ⟨[(0,sl 3 vel a0,false),(3,.int .i64 0,false)],[]⟩=some (.exit 0,⟨[(0,sl 3 vel a0,false),(3,.int .i64 d17,false),(10,.bool false,false)],[]⟩):=l44_0 a0 h15
   have hr:true=r:=Option.some.inj h
   subst hr
   refine iso_F rfl ?_ (fun _=>by first | rfl | simp only [go_sem,seval]) (by first | rfl | simp only [go_sem,seval])
   rw [callFn_at (show pr.fns 44=some c44 from rfl) (by simp)]
   simp only [go_sem,seval,c44,h1,wh15]
   exact ⟨_,rfl⟩
noncomputable def s46_0 (a0:Option (List GEl)) (s0:(Option (List GEl)) × Int × Bool):Option (((Option (List GEl)) × Int × Bool) ⊕ (((Option (List GEl)) × Bool × Int))):=
 cond (decide (s0.2.1 < ((a0.getD []).length:Int)))
  (obind (idxO (a0.getD []) s0.2.1) fun v14=>
  cond s0.2.2
   (obind (apO s0.1 [v14]) fun v17=>
   some (.inl (v17,wrapF .i64 (s0.2.1 + 1),true)))
   (cond s0.1.isNone
    (obind (apO s0.1 [v14]) fun v20=>
    some (.inl (v20,wrapF .i64 (s0.2.1 + 1),true)))
    (none)))
  (some (.inr (s0.1,s0.2.2,s0.2.1)))
def St46_0 (a0:Option (List GEl)) (s0:(Option (List GEl)) × Int × Bool):ASt:=⟨[(3,sl 3 vel s0.1,s0.2.2),(6,sl 3 vel a0,false),(7,.int .i64 ((a0.getD []).length:Int),false),(8,.int .i64 s0.2.1,false)],[]⟩
def Ex46_0 (a0:Option (List GEl)) (d:((Option (List GEl)) × Bool × Int)):AExit × ASt:=(.exit 0,⟨[(3,sl 3 vel d.1,d.2.1),(6,sl 3 vel a0,false),(7,.int .i64 ((a0.getD []).length:Int),false),(8,.int .i64 d.2.2,false),(9,.bool false,false)],[]⟩)
theorem b46_0 (a0:Option (List GEl)) (s0:(Option (List GEl)) × Int × Bool) (r) (h:s46_0 a0 s0=some r):stepO pr c46_0 (St46_0 a0) (Ex46_0 a0) s0 r:=by
 unfold s46_0 at h
 rcases cond_split h with ⟨h13,h⟩ | ⟨h13,h⟩
 ·obtain ⟨v14,h15,h⟩:=obind_some h
  rcases cond_split h with ⟨h16,h⟩ | ⟨h16,h⟩
  ·obtain ⟨v17,h18,h⟩:=obind_some h
   cases h
   exact stepO_in (st':=⟨[(3,sl 3 vel v17,true),(6,sl 3 vel a0,false),(7,.int .i64 ((a0.getD []).length:Int),false),(8,.int .i64 (wrapF .i64 (s0.2.1 + 1)),false)],[]++[.cells [(.str v14.kind,false),(.int .i64 v14.a,false),(.int .i64 v14.b,false)]]⟩) (by simp only [go_sem,seval,c46_0,St46_0,h13,idxR_O h15,h16,app_vel_O h18] <;> rfl) (gc_over rfl rfl (by first | simp only [go_sem,seval,St46_0] | rfl) (by first | simp only [go_sem,seval,St46_0] | rfl))
  ·rcases cond_split h with ⟨h19,h⟩ | ⟨h19,h⟩
   ·obtain ⟨v20,h21,h⟩:=obind_some h
    cases h
    exact stepO_in (st':=⟨[(3,sl 3 vel v20,true),(6,sl 3 vel a0,false),(7,.int .i64 ((a0.getD []).length:Int),false),(8,.int .i64 (wrapF .i64 (s0.2.1 + 1)),false)],[]++[.cells [(.str v14.kind,false),(.int .i64 v14.a,false),(.int .i64 v14.b,false)]]⟩) (by simp only [go_sem,seval,c46_0,St46_0,h13,idxR_O h15,h16,h19,app_vel_N h21 h19] <;> rfl) (gc_over rfl rfl (by first | simp only [go_sem,seval,St46_0] | rfl) (by first | simp only [go_sem,seval,St46_0] | rfl))
   ·cases h
 ·cases h
  exact stepO_out (by simp only [go_sem,seval,c46_0,St46_0,h13,Ex46_0] <;> rfl)
theorem l46_0 (a0:Option (List GEl)) {s0:(Option (List GEl)) × Int × Bool} {d} (h:itO (s46_0 a0) s0=some d):X pr (.loop c46_0) (St46_0 a0 s0)=some (Ex46_0 a0 d):=X_itO (b46_0 a0) (fun d hh=>by cases hh) h
noncomputable def f46 (a0:Option (List GEl)):Option ((Option (List GEl)) × Bool):=
 obind (itO (s46_0 a0) (none,0,false)) fun d22=>
 some (d22.1,d22.2.1)
theorem W46 {a0:Option (List GEl)} {r} (h:f46 a0=some r):callIso pr (X pr) 46 [sl 3 vel a0]=some (sl 3 vel r.1,r.2):=by
 unfold f46 at h
 obtain ⟨d22,h23,h⟩:=obind_some h
 have wh23:X pr (.loop c46_0) ⟨[(3,.list true 0 [],false),(6,sl 3 vel a0,false),(7,.int .i64 ((a0.getD []).length:Int),false),(8,.int .i64 0,false)],[]⟩=some (.exit 0,⟨[(3,sl 3 vel d22.1,d22.2.1),(6,sl 3 vel a0,false),(7,.int .i64 ((a0.getD []).length:Int),false),(8,.int .i64 d22.2.2,false),(9,.bool false,false)],[]⟩):=l46_0 a0 h23
 have hr:(d22.1,d22.2.1)=r:=Option.some.inj h
 subst hr
 have this:∃ hh,callFn pr (X pr) 46 [sl 3 vel a0] []=some (sl 3 vel d22.1,d22.2.1,hh):=by
  rw [callFn_at (show pr.fns 46=some c46 from rfl) (by simp)]
  simp only [go_sem,seval,c46,wh23]
  exact ⟨_,rfl⟩
 obtain ⟨hh,this⟩:=this
 exact callIso_of_dyn rfl this (by first | rfl | simp only [go_sem,seval]) (by first | rfl | simp only [go_sem,seval]) (by first | rfl | simp only [go_sem,seval])
end Go.Z
