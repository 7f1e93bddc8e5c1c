/-
  Chapter 4: small numbers: functions that mirror the runs, and the runs (printed by walk.py).
-/
import Derived.Test.YtnjngdcbkkonnaaGreatDoorA5
set_option linter.unusedVariables false
set_option linter.unusedSimpArgs false
set_option maxRecDepth 100000
set_option maxHeartbeats 4000000
namespace Go.Z
open Go Go.Abs
noncomputable def f137 (a0:GRat):Option Int:=
 obind (f40 a0.num (-30000) 30000) fun v1=>
 obind (f40 a0.den (-30000) 30000) fun v3=>
 obind (f100 (some [v1,v3])) fun v5=>
 some v5
theorem W137 {a0:GRat} {r} (h:f137 a0=some r):callIso pr (X pr) 137 [.agg [.int .i64 a0.num,.int .i64 a0.den]]=some (.int .i64 r,false):=by
 unfold f137 at h
 obtain ⟨v1,h2,h⟩:=obind_some h
 have wh2:callIso pr (X pr) 40 [.int .i64 a0.num,.int .i64 (-30000),.int .i64 30000]=some (.int .i64 v1,false):=W40 h2
 obtain ⟨v3,h4,h⟩:=obind_some h
 have wh4:callIso pr (X pr) 40 [.int .i64 a0.den,.int .i64 (-30000),.int .i64 30000]=some (.int .i64 v3,false):=W40 h4
 obtain ⟨v5,h6,h⟩:=obind_some h
 have wh6:callIso pr (X pr) 100 [.list false 1 [.int .i64 v1,.int .i64 v3]]=some (.int .i64 v5,false):=W100 h6
 have hr:v5=r:=Option.some.inj h
 subst hr
 refine iso_F rfl ?_ (fun _=>by first | rfl | simp only [go_sem,seval]) (by first | rfl | simp only [go_sem,seval])
 rw [callFn_at (show pr.fns 137=some c137 from rfl) (by simp)]
 simp only [go_sem,seval,c137,wh2,wh4,wh6]
 exact ⟨_,rfl⟩
noncomputable def f61 (a0:GMat):Option Int:=
 obind (f137 (⟨a0.m0,a0.m1⟩)) fun v1=>
 obind (f137 (⟨a0.m2,a0.m3⟩)) fun v3=>
 obind (f137 (⟨a0.m4,a0.m5⟩)) fun v5=>
 obind (f137 (⟨a0.m6,a0.m7⟩)) fun v7=>
 obind (f100 (some [v1,v3,v5,v7])) fun v9=>
 some v9
theorem W61 {a0:GMat} {r} (h:f61 a0=some r):callIso pr (X pr) 61 [.agg [.int .i64 a0.m0,.int .i64 a0.m1,.int .i64 a0.m2,.int .i64 a0.m3,.int .i64 a0.m4,.int .i64 a0.m5,.int .i64 a0.m6,.int .i64 a0.m7]]=some (.int .i64 r,false):=by
 unfold f61 at h
 obtain ⟨v1,h2,h⟩:=obind_some h
 have wh2:callIso pr (X pr) 137 [.agg [.int .i64 a0.m0,.int .i64 a0.m1]]=some (.int .i64 v1,false):=W137 h2
 obtain ⟨v3,h4,h⟩:=obind_some h
 have wh4:callIso pr (X pr) 137 [.agg [.int .i64 a0.m2,.int .i64 a0.m3]]=some (.int .i64 v3,false):=W137 h4
 obtain ⟨v5,h6,h⟩:=obind_some h
 have wh6:callIso pr (X pr) 137 [.agg [.int .i64 a0.m4,.int .i64 a0.m5]]=some (.int .i64 v5,false):=W137 h6
 obtain ⟨v7,h8,h⟩:=obind_some h
 have wh8:callIso pr (X pr) 137 [.agg [.int .i64 a0.m6,.int .i64 a0.m7]]=some (.int .i64 v7,false):=W137 h8
 obtain ⟨v9,h10,h⟩:=obind_some h
 have wh10:callIso pr (X pr) 100 [.list false 1 [.int .i64 v1,.int .i64 v3,.int .i64 v5,.int .i64 v7]]=some (.int .i64 v9,false):=W100 h10
 have hr:v9=r:=Option.some.inj h
 subst hr
 refine iso_F rfl ?_ (fun _=>by first | rfl | simp only [go_sem,seval]) (by first | rfl | simp only [go_sem,seval])
 rw [callFn_at (show pr.fns 61=some c61 from rfl) (by simp)]
 simp only [go_sem,seval,c61,wh2,wh4,wh6,wh8,wh10]
 exact ⟨_,rfl⟩
noncomputable def f62 (a0:GQuad):Option Bool:=
 cond (decide (a0.c=0) && decide (a0.d=0))
  (some false)
  (cond (decide ((max (max (max a0.a a0.b) a0.c) a0.d) < 134217728))
   (some (decide ((-134217728) < (min (min (min a0.a a0.b) a0.c) a0.d))))
   (some false))
theorem W62 {a0:GQuad} {r} (h:f62 a0=some r):callIso pr (X pr) 62 [.agg [.int .i64 a0.a,.int .i64 a0.b,.int .i64 a0.c,.int .i64 a0.d]]=some (.bool r,false):=by
 unfold f62 at h
 rcases cond_split h with ⟨h1,h⟩ | ⟨h1,h⟩
 ·have hr:false=r:=Option.some.inj h
  subst hr
  refine iso_F rfl ?_ (fun _=>by first | rfl | simp only [go_sem,seval]) (by first | rfl | simp only [go_sem,seval])
  rw [callFn_at (show pr.fns 62=some c62 from rfl) (by simp)]
  simp only [go_sem,seval,c62,h1]
  exact ⟨_,rfl⟩
 ·rcases cond_split h with ⟨h2,h⟩ | ⟨h2,h⟩
  ·have hr:decide ((-134217728) < (min (min (min a0.a a0.b) a0.c) a0.d))=r:=Option.some.inj h
   subst hr
   refine iso_F rfl ?_ (fun _=>by first | rfl | simp only [go_sem,seval]) (by first | rfl | simp only [go_sem,seval])
   rw [callFn_at (show pr.fns 62=some c62 from rfl) (by simp)]
   simp only [go_sem,seval,c62,h1,h2]
   exact ⟨_,rfl⟩
  ·have hr:false=r:=Option.some.inj h
   subst hr
   refine iso_F rfl ?_ (fun _=>by first | rfl | simp only [go_sem,seval]) (by first | rfl | simp only [go_sem,seval])
   rw [callFn_at (show pr.fns 62=some c62 from rfl) (by simp)]
   simp only [go_sem,seval,c62,h1,h2]
   exact ⟨_,rfl⟩
end Go.Z
