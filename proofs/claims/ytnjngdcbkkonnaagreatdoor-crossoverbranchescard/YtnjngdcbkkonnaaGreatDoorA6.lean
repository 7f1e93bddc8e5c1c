/-
  Chapter 4: the law CrossoverSums: functions that mirror the runs, and the runs (printed by walk.py).
-/
import Derived.Test.YtnjngdcbkkonnaaGreatDoorLZ
import Derived.Test.YtnjngdcbkkonnaaGreatDoorA5
set_option linter.unusedVariables false
set_option linter.unusedSimpArgs false
set_option maxRecDepth 100000
set_option maxHeartbeats 4000000
namespace Go.Z
open Go Go.Abs
theorem Q44 {a0:Option (List GEl)} {r} (h:f44 a0=some r):callIso prZ (X prZ) 44 [sl 3 vel a0]=some (.bool r,false):=atZ rfl rfl (atE rfl rfl (W44 h) (by first | rfl | simp only [go_sem,seval])) (by first | rfl | simp only [go_sem,seval])
theorem Q45 {a0:Option (List GEl)} {a1:Option (List GEl)} {a2:Int} {a3:Bool} {r} (h:f45 a0 a1 a2 a3=some r):callIso prZ (X prZ) 45 [sl 3 vel a0,sl 3 vel a1,.int .i64 a2,.bool a3]=some (.tup [.agg [.int .i64 r.1.a,.int .i64 r.1.b,.int .i64 r.1.c,.int .i64 r.1.d],.int .i64 r.2],false):=atZ rfl rfl (atE rfl rfl (W45 h) (by first | rfl | simp only [go_sem,seval])) (by first | rfl | simp only [go_sem,seval])
theorem Q46 {a0:Option (List GEl)} {r} (h:f46 a0=some r):callIso prZ (X prZ) 46 [sl 3 vel a0]=some (sl 3 vel r.1,r.2):=atZ rfl rfl (atE rfl rfl (W46 h) (by first | rfl | simp only [go_sem,seval])) (by first | rfl | simp only [go_sem,seval])
theorem Q47 {a0:Option (List GEl)} {a1:Option (List GEl)} {a2:Int} {a3:Bool} {r} (h:f47 a0 a1 a2 a3=some r):callIso prZ (X prZ) 47 [sl 3 vel a0,sl 3 vel a1,.int .i64 a2,.bool a3]=some (.tup [.agg [.int .i64 r.1.num,.int .i64 r.1.den],.int .i64 r.2],false):=atZ rfl rfl (atE rfl rfl (W47 h) (by first | rfl | simp only [go_sem,seval])) (by first | rfl | simp only [go_sem,seval])
theorem Q48 {a0:Option (List GEl)} {a1:Option (List GEl)} {a2:Int} {a3:Int} {r} (h:f48 a0 a1 a2 a3=some r):callIso prZ (X prZ) 48 [sl 3 vel a0,sl 3 vel a1,.int .i64 a2,.int .i64 a3]=some (.tup [.int .i64 r.1,.int .i64 r.2],false):=atZ rfl rfl (atE rfl rfl (W48 h) (by first | rfl | simp only [go_sem,seval])) (by first | rfl | simp only [go_sem,seval])
theorem Q49 {a0:Option (List GEl)} {r} (h:f49 a0=some r):callIso prZ (X prZ) 49 [sl 3 vel a0]=some (.int .i64 r,false):=atZ rfl rfl (atE rfl rfl (W49 h) (by first | rfl | simp only [go_sem,seval])) (by first | rfl | simp only [go_sem,seval])
theorem Q50 {a0:Int} {a1:Int} {r} (h:f50 a0 a1=some r):callIso prZ (X prZ) 50 [.int .i64 a0,.int .i64 a1]=some (.int .i64 r,false):=atZ rfl rfl (atE rfl rfl (W50 h) (by first | rfl | simp only [go_sem,seval])) (by first | rfl | simp only [go_sem,seval])
end Go.Z
