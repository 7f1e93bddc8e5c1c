/-
  Chapter 4: levels and sums: functions that mirror the runs, and the runs (printed by walk.py).
-/
import Derived.Test.YtnjngdcbkkonnaaGreatDoorA4
set_option linter.unusedVariables false
set_option linter.unusedSimpArgs false
set_option maxRecDepth 100000
set_option maxHeartbeats 4000000
namespace Go.Z
open Go Go.Abs
noncomputable def f32 (a0:Option (List Int)):Option Int:=
 qh (f100 a0) fun v1=>
 some v1
theorem W32 {a0:Option (List Int)} {r} (h:f32 a0=some r):qd pr (X pr) 32 [sl 1 qp a0]=some (.int .i64 r,false):=by
 unfold f32 at h
 obtain ⟨v1,h2,h⟩:=qb h
 have hr:v1=r:=Option.some.inj h
 subst hr
 refine qu rfl ?_ (fun _=>by first | rfl | simp only [go_sem,seval]) (by first | rfl | simp only [go_sem,seval])
 rw [qf (show pr.fns 32=some c32 from rfl) (by simp)]
 simp only [go_sem,seval,c32,q15 h2]
 exact ⟨_,rfl⟩
noncomputable def f43 (a0:Int) (a1:Int) (a2:Int) (a3:Int):Option Bool:=
 cond (decide (a2=0))
  (cond (decide (a1=0))
   (some (decide (a0=a3)))
   (some false))
  (cond (decide (a0=0))
   (some (decide (a1=a2)))
   (some false))
theorem W43 {a0:Int} {a1:Int} {a2:Int} {a3:Int} {r} (h:f43 a0 a1 a2 a3=some r):qd pr (X pr) 43 [.int .i64 a0,.int .i64 a1,.int .i64 a2,.int .i64 a3]=some (.bool r,false):=by
 unfold f43 at h
 rcases qa h with ⟨h1,h⟩ | ⟨h1,h⟩
 ·rcases qa h with ⟨h2,h⟩ | ⟨h2,h⟩
  ·have hr:decide (a0=a3)=r:=Option.some.inj h
   subst hr
   refine qu rfl ?_ (fun _=>by first | rfl | simp only [go_sem,seval]) (by first | rfl | simp only [go_sem,seval])
   rw [qf (show pr.fns 43=some c43 from rfl) (by simp)]
   simp only [go_sem,seval,c43,h1,h2]
   exact ⟨_,rfl⟩
  ·have hr:false=r:=Option.some.inj h
   subst hr
   refine qu rfl ?_ (fun _=>by first | rfl | simp only [go_sem,seval]) (by first | rfl | simp only [go_sem,seval])
   rw [qf (show pr.fns 43=some c43 from rfl) (by simp)]
   simp only [go_sem,seval,c43,h1,h2]
   exact ⟨_,rfl⟩
 ·rcases qa h with ⟨h3,h⟩ | ⟨h3,h⟩
  ·have hr:decide (a1=a2)=r:=Option.some.inj h
   subst hr
   refine qu rfl ?_ (fun _=>by first | rfl | simp only [go_sem,seval]) (by first | rfl | simp only [go_sem,seval])
   rw [qf (show pr.fns 43=some c43 from rfl) (by simp)]
   simp only [go_sem,seval,c43,h1,h3]
   exact ⟨_,rfl⟩
  ·have hr:false=r:=Option.some.inj h
   subst hr
   refine qu rfl ?_ (fun _=>by first | rfl | simp only [go_sem,seval]) (by first | rfl | simp only [go_sem,seval])
   rw [qf (show pr.fns 43=some c43 from rfl) (by simp)]
   simp only [go_sem,seval,c43,h1,h3]
   exact ⟨_,rfl⟩
end Go.Z
