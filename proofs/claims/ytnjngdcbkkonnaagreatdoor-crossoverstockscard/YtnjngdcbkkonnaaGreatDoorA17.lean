/-
  Chapter 4: what is in stock: functions that mirror the runs, and the runs (printed by walk.py).
-/
import Derived.Test.YtnjngdcbkkonnaaGreatDoorTK
import Derived.Test.YtnjngdcbkkonnaaGreatDoorA16
set_option linter.unusedVariables false
set_option linter.unusedSimpArgs false
set_option maxRecDepth 100000
set_option maxHeartbeats 4000000
namespace Go.Z
open Go Go.Abs
theorem qxt {a0:Option (List qc)} {a1:Option (List Int)} {r} (h:f133 a0 a1=some r):qd prT (X prT) 133 [sl 8 qg a0,sl 1 qp a1]=some (.int .i64 r,false):=atT rfl rfl (q21 h) (by first | rfl | simp only [go_sem,seval])
theorem jkz {a0:Bool} {a1:Int} {r} (h:f106 a0 a1=some r):qd prT (X prT) 106 [.bool a0,.int .i64 a1]=some (.int .i64 r,false):=atT rfl rfl (ql1 h) (by first | rfl | simp only [go_sem,seval])
noncomputable def f68 (a0:Option (List qc)) (a1:Option (List Int)):Option (Bool × Int):=
 qh (f133 a0 a1) fun v1=>
 cond (decide (v1=0))
  (qh (f138 a0 a1) fun v4=>
  some (v4.2,0))
  (some (false,v1))
theorem W68 {a0:Option (List qc)} {a1:Option (List Int)} {r} (h:f68 a0 a1=some r):qd prT (X prT) 68 [sl 8 qg a0,sl 1 qp a1]=some (.tup [.bool r.1,.int .i64 r.2],false):=by
 unfold f68 at h
 obtain ⟨v1,h2,h⟩:=qb h
 rcases qa h with ⟨h3,h⟩ | ⟨h3,h⟩
 ·obtain ⟨v4,h5,h⟩:=qb h
  have hr:(v4.2,0)=r:=Option.some.inj h
  subst hr
  refine qu rfl ?_ (fun _=>by first | rfl | simp only [go_sem,seval]) (by first | rfl | simp only [go_sem,seval])
  rw [qf (show prT.fns 68=some c68 from rfl) (by simp)]
  simp only [go_sem,seval,c68,qxt h2,h3,q7w h5]
  exact ⟨_,rfl⟩
 ·have hr:(false,v1)=r:=Option.some.inj h
  subst hr
  refine qu rfl ?_ (fun _=>by first | rfl | simp only [go_sem,seval]) (by first | rfl | simp only [go_sem,seval])
  rw [qf (show prT.fns 68=some c68 from rfl) (by simp)]
  simp only [go_sem,seval,c68,qxt h2,h3]
  exact ⟨_,rfl⟩
noncomputable def f69 (a0:Option (List qc)) (a1:Option (List Int)):Option ((Option (List qc)) × Int):=
 qh (f133 a0 a1) fun v1=>
 cond (decide (v1=0))
  (qh (f138 a0 a1) fun v4=>
  qh (f106 (!v4.2) 7) fun v6=>
  some (v4.1,v6))
  (some (none,v1))
theorem W69 {a0:Option (List qc)} {a1:Option (List Int)} {r} (h:f69 a0 a1=some r):qd prT (X prT) 69 [sl 8 qg a0,sl 1 qp a1]=some (.tup [sl 8 qg r.1,.int .i64 r.2],false):=by
 unfold f69 at h
 obtain ⟨v1,h2,h⟩:=qb h
 rcases qa h with ⟨h3,h⟩ | ⟨h3,h⟩
 ·obtain ⟨v4,h5,h⟩:=qb h
  obtain ⟨v6,h7,h⟩:=qb h
  have wh7:qd prT (X prT) 106 [.bool (!v4.2),.int .i64 7]=some (.int .i64 v6,false):=jkz h7
  have hr:(v4.1,v6)=r:=Option.some.inj h
  subst hr
  refine qu rfl ?_ (fun _=>by first | rfl | simp only [go_sem,seval]) (by first | rfl | simp only [go_sem,seval])
  rw [qf (show prT.fns 69=some c69 from rfl) (by simp)]
  simp only [go_sem,seval,c69,qxt h2,h3,q7w h5,wh7]
  exact ⟨_,rfl⟩
 ·have hr:(none,v1)=r:=Option.some.inj h
  subst hr
  refine qu rfl ?_ (fun _=>by first | rfl | simp only [go_sem,seval]) (by first | rfl | simp only [go_sem,seval])
  rw [qf (show prT.fns 69=some c69 from rfl) (by simp)]
  simp only [go_sem,seval,c69,qxt h2,h3]
  exact ⟨_,rfl⟩
end Go.Z
