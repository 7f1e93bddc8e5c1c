/-
  Chapter 4: extremes, both sides: functions that mirror the runs, and the runs (printed by walk.py).
-/
import Derived.Test.YtnjngdcbkkonnaaGreatDoorA8
set_option linter.unusedVariables false
set_option linter.unusedSimpArgs false
set_option maxRecDepth 100000
set_option maxHeartbeats 4000000
namespace Go.Z
open Go Go.Abs
noncomputable def f28 (a0:qbr):Option Bool:=
 qd (f36 a0.parts a0.bands 0) fun v1=>
 cond v1
  (some (decide (((a0.choice.getD []).length:Int)≤5)))
  (some false)
theorem W28 {a0:qbr} {r} (h:f28 a0=some r):qc pr (X pr) 28 [.agg [sl 8 qn a0.parts,sl 1 qu a0.choice,sl 5 jd a0.bands]]=some (.bool r,false):=by
 unfold f28 at h
 obtain ⟨v1,h2,h⟩:=qa h
 have wh2:qc pr (X pr) 36 [sl 8 qn a0.parts,sl 5 jd a0.bands,.int .i64 0]=some (.bool v1,false):=W36 h2
 rcases qb h with ⟨h3,h⟩ | ⟨h3,h⟩
 ·have hr:decide (((a0.choice.getD []).length:Int)≤5)=r:=Option.some.inj h
  subst hr
  refine qp rfl ?_ (fun _=>by first | rfl | simp only [go_sem,seval]) (by first | rfl | simp only [go_sem,seval])
  rw [qf (show pr.fns 28=some c28 from rfl) (by simp)]
  simp only [go_sem,seval,c28,wh2,h3]
  exact ⟨_,rfl⟩
 ·have hr:false=r:=Option.some.inj h
  subst hr
  refine qp rfl ?_ (fun _=>by first | rfl | simp only [go_sem,seval]) (by first | rfl | simp only [go_sem,seval])
  rw [qf (show pr.fns 28=some c28 from rfl) (by simp)]
  simp only [go_sem,seval,c28,wh2,h3]
  exact ⟨_,rfl⟩
end Go.Z
/-
 Chapter 4: extremes,both sides: functions that mirror the runs,and the runs (printed by walk.py).
-/
namespace Go.Z
open Go Go.Abs
theorem qe6 {b t:Nat} {h:ql} {bb:Bool} {p:Option (List GEl)} {o v:Option (List (Option (List GEl)))} (hv:apO o [p]=some v):appR 1 b h (some t) (some (sl 1 (sl 3 vel) o)) (some (.list bb 1 [sl 3 vel p]))=ifR (decide (b≤4096)) (some ⟨sl 1 (sl 3 vel) v,true,some t,h⟩):=qjp (x:=p) (by omega) rfl hv
theorem qe8 {b:Nat} {h:ql} {bb:Bool} {p:Option (List GEl)} {o v:Option (List (Option (List GEl)))} (hv:apO o [p]=some v) (hn:o.isNone=true):appR 1 b h none (some (sl 1 (sl 3 vel) o)) (some (.list bb 1 [sl 3 vel p]))=ifR (decide (b≤4096)) (some ⟨sl 1 (sl 3 vel) v,true,none,h⟩):=qeu (x:=p) (by omega) rfl hn hv
@[go_sem] theorem jfq {n z:Nat} {l:Option (List (Option (List GEl)))}:below n (sl z (sl 3 vel) l)=true:=qe0 fun _=>q1u
noncomputable def qfx (a0:Option (List qi)) (a1:Option (List Int)) (s0:Bool × (Option (List (Option (List GEl)))) × Int × Bool) (v985:qi) (v987:(Option (List GEl)) × Bool) (s1:Bool × (Option (List (Option (List GEl)))) × Int × Bool) (s2:Bool × (Option (List (Option (List GEl)))) × Int × Bool):Option ((Bool × (Option (List (Option (List GEl)))) × Int × Bool) ⊕ ((Bool × (Option (List (Option (List GEl)))) × Bool × Int))):=
 cond (decide (s2.2.2.1 < ((v987.1.getD []).length:Int)))
  (qd (j7 (v987.1.getD []) s2.2.2.1) fun v1366=>
  cond (decide ((max (qg .i64 (v1366.a - v985.pa)) (qg .i64 (v985.pa - v1366.a)))=v985.sa))
   (cond (decide ((max (qg .i64 (v1366.b - v985.pb)) (qg .i64 (v985.pb - v1366.b)))=v985.sb))
    (qd (j7 (s0.2.1.getD []) s1.2.2.1) fun v1370=>
    qd (apO (some []) (v1370.getD [])) fun v1372=>
    qd (apO v1372 [v1366]) fun v1374=>
    cond s2.2.2.2
     (qd (apO s2.2.1 [v1374]) fun v1377=>
     some (.inl (s2.1,v1377,qg .i64 (s2.2.2.1 + 1),true)))
     (cond s2.2.1.isNone
      (qd (apO s2.2.1 [v1374]) fun v1380=>
      some (.inl (s2.1,v1380,qg .i64 (s2.2.2.1 + 1),true)))
      (none)))
    (cond s2.1
     (some (.inl (true,s2.2.1,qg .i64 (s2.2.2.1 + 1),s2.2.2.2)))
     (qd (j7 (s0.2.1.getD []) s1.2.2.1) fun v1383=>
     qd (apO (some []) (v1383.getD [])) fun v1385=>
     qd (apO v1385 [v1366]) fun v1387=>
     cond s2.2.2.2
      (qd (apO s2.2.1 [v1387]) fun v1390=>
      some (.inl (false,v1390,qg .i64 (s2.2.2.1 + 1),true)))
      (cond s2.2.1.isNone
       (qd (apO s2.2.1 [v1387]) fun v1393=>
       some (.inl (false,v1393,qg .i64 (s2.2.2.1 + 1),true)))
       (none)))))
   (cond s2.1
    (some (.inl (true,s2.2.1,qg .i64 (s2.2.2.1 + 1),s2.2.2.2)))
    (qd (j7 (s0.2.1.getD []) s1.2.2.1) fun v1396=>
    qd (apO (some []) (v1396.getD [])) fun v1398=>
    qd (apO v1398 [v1366]) fun v1400=>
    cond s2.2.2.2
     (qd (apO s2.2.1 [v1400]) fun v1403=>
     some (.inl (false,v1403,qg .i64 (s2.2.2.1 + 1),true)))
     (cond s2.2.1.isNone
      (qd (apO s2.2.1 [v1400]) fun v1406=>
      some (.inl (false,v1406,qg .i64 (s2.2.2.1 + 1),true)))
      (none)))))
  (some (.inr (s2.1,s2.2.1,s2.2.2.2,s2.2.2.1)))
def yg (a0:Option (List qi)) (a1:Option (List Int)) (s0:Bool × (Option (List (Option (List GEl)))) × Int × Bool) (v985:qi) (v987:(Option (List GEl)) × Bool) (s1:Bool × (Option (List (Option (List GEl)))) × Int × Bool) (s2:Bool × (Option (List (Option (List GEl)))) × Int × Bool):ASt:=⟨[(0,sl 8 qn a0,false),(1,sl 1 qu a1,false),(2,.bool s2.1,false),(7,sl 1 (sl 3 vel) s0.2.1,s0.2.2.2),(8,.int .i64 s0.2.2.1,false),(9,sl 1 (sl 3 vel) s2.2.1,s2.2.2.2),(10,.ptr 0 0,false),(11,sl 3 vel v987.1,v987.2),(12,.int .i64 s1.2.2.1,false),(13,.int .i64 s2.2.2.1,false)],[.cells [(.str v985.name,false),(.str v985.kd,false),(.int .i64 v985.pa,false),(.int .i64 v985.pb,false),(.int .i64 v985.sa,false),(.int .i64 v985.sb,false),(.int .i64 v985.cost,false),(.int .i64 v985.stock,false)]]⟩
def qsx (a0:Option (List qi)) (a1:Option (List Int)) (s0:Bool × (Option (List (Option (List GEl)))) × Int × Bool) (v985:qi) (v987:(Option (List GEl)) × Bool) (s1:Bool × (Option (List (Option (List GEl)))) × Int × Bool) (d:(Bool × (Option (List (Option (List GEl)))) × Bool × Int)):jg × ASt:=(.exit 4,⟨[(0,sl 8 qn a0,false),(1,sl 1 qu a1,false),(2,.bool d.1,false),(7,sl 1 (sl 3 vel) s0.2.1,s0.2.2.2),(8,.int .i64 s0.2.2.1,false),(9,sl 1 (sl 3 vel) d.2.1,d.2.2.1),(10,.ptr 0 0,false),(11,sl 3 vel v987.1,v987.2),(12,.int .i64 s1.2.2.1,false),(13,.int .i64 d.2.2.2,false),(41,.bool false,false)],[.cells [(.str v985.name,false),(.str v985.kd,false),(.int .i64 v985.pa,false),(.int .i64 v985.pb,false),(.int .i64 v985.sa,false),(.int .i64 v985.sb,false),(.int .i64 v985.cost,false),(.int .i64 v985.stock,false)]]⟩)
theorem jej (a0:Option (List qi)) (a1:Option (List Int)) (s0:Bool × (Option (List (Option (List GEl)))) × Int × Bool) (v985:qi) (v987:(Option (List GEl)) × Bool) (s1:Bool × (Option (List (Option (List GEl)))) × Int × Bool) (s2:Bool × (Option (List (Option (List GEl)))) × Int × Bool) (r) (h:qfx a0 a1 s0 v985 v987 s1 s2=some r):zd pr qby (yg a0 a1 s0 v985 v987 s1) (qsx a0 a1 s0 v985 v987 s1) s2 r:=by
 unfold qfx at h
 rcases qb h with ⟨h1365,h⟩ | ⟨h1365,h⟩
 ·obtain ⟨v1366,h1367,h⟩:=qa h
  rcases qb h with ⟨h1368,h⟩ | ⟨h1368,h⟩
  ·rcases qb h with ⟨h1369,h⟩ | ⟨h1369,h⟩
   ·obtain ⟨v1370,h1371,h⟩:=qa h
    obtain ⟨v1372,h1373,h⟩:=qa h
    obtain ⟨v1374,h1375,h⟩:=qa h
    rcases qb h with ⟨h1376,h⟩ | ⟨h1376,h⟩
    ·obtain ⟨v1377,h1378,h⟩:=qa h
     cases h
     exact qo (st':=⟨[(0,sl 8 qn a0,false),(1,sl 1 qu a1,false),(2,.bool s2.1,false),(7,sl 1 (sl 3 vel) s0.2.1,s0.2.2.2),(8,.int .i64 s0.2.2.1,false),(9,sl 1 (sl 3 vel) v1377,true),(10,.ptr 0 0,false),(11,sl 3 vel v987.1,v987.2),(12,.int .i64 s1.2.2.1,false),(13,.int .i64 (qg .i64 (s2.2.2.1 + 1)),false)],[.cells [(.str v985.name,false),(.str v985.kd,false),(.int .i64 v985.pa,false),(.int .i64 v985.pb,false),(.int .i64 v985.sa,false),(.int .i64 v985.sb,false),(.int .i64 v985.cost,false),(.int .i64 v985.stock,false)]]++[.cells [(.str v1366.kind,false),(.int .i64 v1366.a,false),(.int .i64 v1366.b,false)]]⟩) (by simp only [go_sem,seval,qby,yg,h1365,qw h1367,h1368,h1369,qw h1371,qb1 h1373,qay h1375,h1376,qe6 h1378] <;> rfl) (zp rfl rfl (by first | simp only [go_sem,seval,yg] | rfl) (by first | simp only [go_sem,seval,yg] | rfl))
    ·rcases qb h with ⟨h1379,h⟩ | ⟨h1379,h⟩
     ·obtain ⟨v1380,h1381,h⟩:=qa h
      cases h
      exact qo (st':=⟨[(0,sl 8 qn a0,false),(1,sl 1 qu a1,false),(2,.bool s2.1,false),(7,sl 1 (sl 3 vel) s0.2.1,s0.2.2.2),(8,.int .i64 s0.2.2.1,false),(9,sl 1 (sl 3 vel) v1380,true),(10,.ptr 0 0,false),(11,sl 3 vel v987.1,v987.2),(12,.int .i64 s1.2.2.1,false),(13,.int .i64 (qg .i64 (s2.2.2.1 + 1)),false)],[.cells [(.str v985.name,false),(.str v985.kd,false),(.int .i64 v985.pa,false),(.int .i64 v985.pb,false),(.int .i64 v985.sa,false),(.int .i64 v985.sb,false),(.int .i64 v985.cost,false),(.int .i64 v985.stock,false)]]++[.cells [(.str v1366.kind,false),(.int .i64 v1366.a,false),(.int .i64 v1366.b,false)]]⟩) (by simp only [go_sem,seval,qby,yg,h1365,qw h1367,h1368,h1369,qw h1371,qb1 h1373,qay h1375,h1376,h1379,qe8 h1381 h1379] <;> rfl) (zp rfl rfl (by first | simp only [go_sem,seval,yg] | rfl) (by first | simp only [go_sem,seval,yg] | rfl))
     ·cases h
   ·rcases qb h with ⟨h1382,h⟩ | ⟨h1382,h⟩
    ·cases h
     exact qo (st':=⟨[(0,sl 8 qn a0,false),(1,sl 1 qu a1,false),(2,.bool true,false),(7,sl 1 (sl 3 vel) s0.2.1,s0.2.2.2),(8,.int .i64 s0.2.2.1,false),(9,sl 1 (sl 3 vel) s2.2.1,s2.2.2.2),(10,.ptr 0 0,false),(11,sl 3 vel v987.1,v987.2),(12,.int .i64 s1.2.2.1,false),(13,.int .i64 (qg .i64 (s2.2.2.1 + 1)),false)],[.cells [(.str v985.name,false),(.str v985.kd,false),(.int .i64 v985.pa,false),(.int .i64 v985.pb,false),(.int .i64 v985.sa,false),(.int .i64 v985.sb,false),(.int .i64 v985.cost,false),(.int .i64 v985.stock,false)]]++[.cells [(.str v1366.kind,false),(.int .i64 v1366.a,false),(.int .i64 v1366.b,false)]]⟩) (by simp only [go_sem,seval,qby,yg,h1365,qw h1367,h1368,h1369,h1382] <;> rfl) (zp rfl rfl (by first | simp only [go_sem,seval,yg] | rfl) (by first | simp only [go_sem,seval,yg] | rfl))
    ·obtain ⟨v1383,h1384,h⟩:=qa h
     obtain ⟨v1385,h1386,h⟩:=qa h
     obtain ⟨v1387,h1388,h⟩:=qa h
     rcases qb h with ⟨h1389,h⟩ | ⟨h1389,h⟩
     ·obtain ⟨v1390,h1391,h⟩:=qa h
      cases h
      exact qo (st':=⟨[(0,sl 8 qn a0,false),(1,sl 1 qu a1,false),(2,.bool false,false),(7,sl 1 (sl 3 vel) s0.2.1,s0.2.2.2),(8,.int .i64 s0.2.2.1,false),(9,sl 1 (sl 3 vel) v1390,true),(10,.ptr 0 0,false),(11,sl 3 vel v987.1,v987.2),(12,.int .i64 s1.2.2.1,false),(13,.int .i64 (qg .i64 (s2.2.2.1 + 1)),false)],[.cells [(.str v985.name,false),(.str v985.kd,false),(.int .i64 v985.pa,false),(.int .i64 v985.pb,false),(.int .i64 v985.sa,false),(.int .i64 v985.sb,false),(.int .i64 v985.cost,false),(.int .i64 v985.stock,false)]]++[.cells [(.str v1366.kind,false),(.int .i64 v1366.a,false),(.int .i64 v1366.b,false)]]⟩) (by simp only [go_sem,seval,qby,yg,h1365,qw h1367,h1368,h1369,h1382,qw h1384,qb1 h1386,qay h1388,h1389,qe6 h1391] <;> rfl) (zp rfl rfl (by first | simp only [go_sem,seval,yg] | rfl) (by first | simp only [go_sem,seval,yg] | rfl))
     ·rcases qb h with ⟨h1392,h⟩ | ⟨h1392,h⟩
      ·obtain ⟨v1393,h1394,h⟩:=qa h
       cases h
       exact qo (st':=⟨[(0,sl 8 qn a0,false),(1,sl 1 qu a1,false),(2,.bool false,false),(7,sl 1 (sl 3 vel) s0.2.1,s0.2.2.2),(8,.int .i64 s0.2.2.1,false),(9,sl 1 (sl 3 vel) v1393,true),(10,.ptr 0 0,false),(11,sl 3 vel v987.1,v987.2),(12,.int .i64 s1.2.2.1,false),(13,.int .i64 (qg .i64 (s2.2.2.1 + 1)),false)],[.cells [(.str v985.name,false),(.str v985.kd,false),(.int .i64 v985.pa,false),(.int .i64 v985.pb,false),(.int .i64 v985.sa,false),(.int .i64 v985.sb,false),(.int .i64 v985.cost,false),(.int .i64 v985.stock,false)]]++[.cells [(.str v1366.kind,false),(.int .i64 v1366.a,false),(.int .i64 v1366.b,false)]]⟩) (by simp only [go_sem,seval,qby,yg,h1365,qw h1367,h1368,h1369,h1382,qw h1384,qb1 h1386,qay h1388,h1389,h1392,qe8 h1394 h1392] <;> rfl) (zp rfl rfl (by first | simp only [go_sem,seval,yg] | rfl) (by first | simp only [go_sem,seval,yg] | rfl))
      ·cases h
  ·rcases qb h with ⟨h1395,h⟩ | ⟨h1395,h⟩
   ·cases h
    exact qo (st':=⟨[(0,sl 8 qn a0,false),(1,sl 1 qu a1,false),(2,.bool true,false),(7,sl 1 (sl 3 vel) s0.2.1,s0.2.2.2),(8,.int .i64 s0.2.2.1,false),(9,sl 1 (sl 3 vel) s2.2.1,s2.2.2.2),(10,.ptr 0 0,false),(11,sl 3 vel v987.1,v987.2),(12,.int .i64 s1.2.2.1,false),(13,.int .i64 (qg .i64 (s2.2.2.1 + 1)),false)],[.cells [(.str v985.name,false),(.str v985.kd,false),(.int .i64 v985.pa,false),(.int .i64 v985.pb,false),(.int .i64 v985.sa,false),(.int .i64 v985.sb,false),(.int .i64 v985.cost,false),(.int .i64 v985.stock,false)]]++[.cells [(.str v1366.kind,false),(.int .i64 v1366.a,false),(.int .i64 v1366.b,false)]]⟩) (by simp only [go_sem,seval,qby,yg,h1365,qw h1367,h1368,h1395] <;> rfl) (zp rfl rfl (by first | simp only [go_sem,seval,yg] | rfl) (by first | simp only [go_sem,seval,yg] | rfl))
   ·obtain ⟨v1396,h1397,h⟩:=qa h
    obtain ⟨v1398,h1399,h⟩:=qa h
    obtain ⟨v1400,h1401,h⟩:=qa h
    rcases qb h with ⟨h1402,h⟩ | ⟨h1402,h⟩
    ·obtain ⟨v1403,h1404,h⟩:=qa h
     cases h
     exact qo (st':=⟨[(0,sl 8 qn a0,false),(1,sl 1 qu a1,false),(2,.bool false,false),(7,sl 1 (sl 3 vel) s0.2.1,s0.2.2.2),(8,.int .i64 s0.2.2.1,false),(9,sl 1 (sl 3 vel) v1403,true),(10,.ptr 0 0,false),(11,sl 3 vel v987.1,v987.2),(12,.int .i64 s1.2.2.1,false),(13,.int .i64 (qg .i64 (s2.2.2.1 + 1)),false)],[.cells [(.str v985.name,false),(.str v985.kd,false),(.int .i64 v985.pa,false),(.int .i64 v985.pb,false),(.int .i64 v985.sa,false),(.int .i64 v985.sb,false),(.int .i64 v985.cost,false),(.int .i64 v985.stock,false)]]++[.cells [(.str v1366.kind,false),(.int .i64 v1366.a,false),(.int .i64 v1366.b,false)]]⟩) (by simp only [go_sem,seval,qby,yg,h1365,qw h1367,h1368,h1395,qw h1397,qb1 h1399,qay h1401,h1402,qe6 h1404] <;> rfl) (zp rfl rfl (by first | simp only [go_sem,seval,yg] | rfl) (by first | simp only [go_sem,seval,yg] | rfl))
    ·rcases qb h with ⟨h1405,h⟩ | ⟨h1405,h⟩
     ·obtain ⟨v1406,h1407,h⟩:=qa h
      cases h
      exact qo (st':=⟨[(0,sl 8 qn a0,false),(1,sl 1 qu a1,false),(2,.bool false,false),(7,sl 1 (sl 3 vel) s0.2.1,s0.2.2.2),(8,.int .i64 s0.2.2.1,false),(9,sl 1 (sl 3 vel) v1406,true),(10,.ptr 0 0,false),(11,sl 3 vel v987.1,v987.2),(12,.int .i64 s1.2.2.1,false),(13,.int .i64 (qg .i64 (s2.2.2.1 + 1)),false)],[.cells [(.str v985.name,false),(.str v985.kd,false),(.int .i64 v985.pa,false),(.int .i64 v985.pb,false),(.int .i64 v985.sa,false),(.int .i64 v985.sb,false),(.int .i64 v985.cost,false),(.int .i64 v985.stock,false)]]++[.cells [(.str v1366.kind,false),(.int .i64 v1366.a,false),(.int .i64 v1366.b,false)]]⟩) (by simp only [go_sem,seval,qby,yg,h1365,qw h1367,h1368,h1395,qw h1397,qb1 h1399,qay h1401,h1402,h1405,qe8 h1407 h1405] <;> rfl) (zp rfl rfl (by first | simp only [go_sem,seval,yg] | rfl) (by first | simp only [go_sem,seval,yg] | rfl))
     ·cases h
 ·cases h
  exact qj (by simp only [go_sem,seval,qby,yg,h1365,qsx] <;> rfl)
theorem ja0 (a0:Option (List qi)) (a1:Option (List Int)) (s0:Bool × (Option (List (Option (List GEl)))) × Int × Bool) (v985:qi) (v987:(Option (List GEl)) × Bool) (s1:Bool × (Option (List (Option (List GEl)))) × Int × Bool) {s2:Bool × (Option (List (Option (List GEl)))) × Int × Bool} {d} (h:itO (qfx a0 a1 s0 v985 v987 s1) s2=some d):X pr (.loop qby) (yg a0 a1 s0 v985 v987 s1 s2)=some (qsx a0 a1 s0 v985 v987 s1 d):=zi (jej a0 a1 s0 v985 v987 s1) (fun d hh=>by cases hh) h
noncomputable def qic (a0:Option (List qi)) (a1:Option (List Int)) (s0:Bool × (Option (List (Option (List GEl)))) × Int × Bool) (v985:qi) (v987:(Option (List GEl)) × Bool) (s1:Bool × (Option (List (Option (List GEl)))) × Int × Bool):Option ((Bool × (Option (List (Option (List GEl)))) × Int × Bool) ⊕ ((Bool × (Option (List (Option (List GEl)))) × Bool × Int))):=
 cond (decide (s1.2.2.1 < ((s0.2.1.getD []).length:Int)))
  (qd (itO (qfx a0 a1 s0 v985 v987 s1) (s1.1,s1.2.1,0,s1.2.2.2)) fun d1408=>
  some (.inl (d1408.1,d1408.2.1,qg .i64 (s1.2.2.1 + 1),d1408.2.2.1)))
  (some (.inr (s1.1,s1.2.1,s1.2.2.2,s1.2.2.1)))
def qn3 (a0:Option (List qi)) (a1:Option (List Int)) (s0:Bool × (Option (List (Option (List GEl)))) × Int × Bool) (v985:qi) (v987:(Option (List GEl)) × Bool) (s1:Bool × (Option (List (Option (List GEl)))) × Int × Bool):ASt:=⟨[(0,sl 8 qn a0,false),(1,sl 1 qu a1,false),(2,.bool s1.1,false),(7,sl 1 (sl 3 vel) s0.2.1,s0.2.2.2),(8,.int .i64 s0.2.2.1,false),(9,sl 1 (sl 3 vel) s1.2.1,s1.2.2.2),(10,.ptr 0 0,false),(11,sl 3 vel v987.1,v987.2),(12,.int .i64 s1.2.2.1,false)],[.cells [(.str v985.name,false),(.str v985.kd,false),(.int .i64 v985.pa,false),(.int .i64 v985.pb,false),(.int .i64 v985.sa,false),(.int .i64 v985.sb,false),(.int .i64 v985.cost,false),(.int .i64 v985.stock,false)]]⟩
def qsv (a0:Option (List qi)) (a1:Option (List Int)) (s0:Bool × (Option (List (Option (List GEl)))) × Int × Bool) (v985:qi) (v987:(Option (List GEl)) × Bool) (d:(Bool × (Option (List (Option (List GEl)))) × Bool × Int)):jg × ASt:=(.exit 2,⟨[(0,sl 8 qn a0,false),(1,sl 1 qu a1,false),(2,.bool d.1,false),(7,sl 1 (sl 3 vel) s0.2.1,s0.2.2.2),(8,.int .i64 s0.2.2.1,false),(9,sl 1 (sl 3 vel) d.2.1,d.2.2.1),(10,.ptr 0 0,false),(11,sl 3 vel v987.1,v987.2),(12,.int .i64 d.2.2.2,false),(35,.bool false,false)],[.cells [(.str v985.name,false),(.str v985.kd,false),(.int .i64 v985.pa,false),(.int .i64 v985.pb,false),(.int .i64 v985.sa,false),(.int .i64 v985.sb,false),(.int .i64 v985.cost,false),(.int .i64 v985.stock,false)]]⟩)
theorem jbb (a0:Option (List qi)) (a1:Option (List Int)) (s0:Bool × (Option (List (Option (List GEl)))) × Int × Bool) (v985:qi) (v987:(Option (List GEl)) × Bool) (s1:Bool × (Option (List (Option (List GEl)))) × Int × Bool) (r) (h:qic a0 a1 s0 v985 v987 s1=some r):zd pr qjw (qn3 a0 a1 s0 v985 v987) (qsv a0 a1 s0 v985 v987) s1 r:=by
 unfold qic at h
 rcases qb h with ⟨h1278,h⟩ | ⟨h1278,h⟩
 ·obtain ⟨d1408,h1409,h⟩:=qa h
  have wh1409:X pr (.loop qby) ⟨[(0,sl 8 qn a0,false),(1,sl 1 qu a1,false),(2,.bool s1.1,false),(7,sl 1 (sl 3 vel) s0.2.1,s0.2.2.2),(8,.int .i64 s0.2.2.1,false),(9,sl 1 (sl 3 vel) s1.2.1,s1.2.2.2),(10,.ptr 0 0,false),(11,sl 3 vel v987.1,v987.2),(12,.int .i64 s1.2.2.1,false),(13,.int .i64 0,false)],[.cells [(.str v985.name,false),(.str v985.kd,false),(.int .i64 v985.pa,false),(.int .i64 v985.pb,false),(.int .i64 v985.sa,false),(.int .i64 v985.sb,false),(.int .i64 v985.cost,false),(.int .i64 v985.stock,false)]]⟩=some (.exit 4,⟨[(0,sl 8 qn a0,false),(1,sl 1 qu a1,false),(2,.bool d1408.1,false),(7,sl 1 (sl 3 vel) s0.2.1,s0.2.2.2),(8,.int .i64 s0.2.2.1,false),(9,sl 1 (sl 3 vel) d1408.2.1,d1408.2.2.1),(10,.ptr 0 0,false),(11,sl 3 vel v987.1,v987.2),(12,.int .i64 s1.2.2.1,false),(13,.int .i64 d1408.2.2.2,false),(41,.bool false,false)],[.cells [(.str v985.name,false),(.str v985.kd,false),(.int .i64 v985.pa,false),(.int .i64 v985.pb,false),(.int .i64 v985.sa,false),(.int .i64 v985.sb,false),(.int .i64 v985.cost,false),(.int .i64 v985.stock,false)]]⟩):=ja0 a0 a1 s0 v985 v987 s1 h1409
  cases h
  exact qo (st':=⟨[(0,sl 8 qn a0,false),(1,sl 1 qu a1,false),(2,.bool d1408.1,false),(7,sl 1 (sl 3 vel) s0.2.1,s0.2.2.2),(8,.int .i64 s0.2.2.1,false),(9,sl 1 (sl 3 vel) d1408.2.1,d1408.2.2.1),(10,.ptr 0 0,false),(11,sl 3 vel v987.1,v987.2),(12,.int .i64 (qg .i64 (s1.2.2.1 + 1)),false)],[.cells [(.str v985.name,false),(.str v985.kd,false),(.int .i64 v985.pa,false),(.int .i64 v985.pb,false),(.int .i64 v985.sa,false),(.int .i64 v985.sb,false),(.int .i64 v985.cost,false),(.int .i64 v985.stock,false)]]⟩) (by simp only [go_sem,seval,qjw,qn3,h1278,wh1409] <;> rfl) (jc (Nat.le_refl _))
 ·cases h
  exact qj (by simp only [go_sem,seval,qjw,qn3,h1278,qsv] <;> rfl)
theorem jco (a0:Option (List qi)) (a1:Option (List Int)) (s0:Bool × (Option (List (Option (List GEl)))) × Int × Bool) (v985:qi) (v987:(Option (List GEl)) × Bool) {s1:Bool × (Option (List (Option (List GEl)))) × Int × Bool} {d} (h:itO (qic a0 a1 s0 v985 v987) s1=some d):X pr (.loop qjw) (qn3 a0 a1 s0 v985 v987 s1)=some (qsv a0 a1 s0 v985 v987 d):=zi (jbb a0 a1 s0 v985 v987) (fun d hh=>by cases hh) h
noncomputable def qfu (a0:Option (List qi)) (a1:Option (List Int)) (s0:Bool × (Option (List (Option (List GEl)))) × Int × Bool):Option ((Bool × (Option (List (Option (List GEl)))) × Int × Bool) ⊕ ((Bool × (Option (List (Option (List GEl)))) × Bool × Int))):=
 cond (decide (s0.2.2.1 < ((a1.getD []).length:Int)))
  (qd (j7 (a1.getD []) s0.2.2.1) fun v983=>
  qd (j7 (a0.getD []) v983) fun v985=>
  qd (f104 v985) fun v987=>
  qd (itO (qic a0 a1 s0 v985 v987) (s0.1,none,0,false)) fun d1410=>
  some (.inl (d1410.1,d1410.2.1,qg .i64 (s0.2.2.1 + 1),d1410.2.2.1)))
  (some (.inr (s0.1,s0.2.1,s0.2.2.2,s0.2.2.1)))
def qg1 (a0:Option (List qi)) (a1:Option (List Int)) (s0:Bool × (Option (List (Option (List GEl)))) × Int × Bool):ASt:=⟨[(0,sl 8 qn a0,false),(1,sl 1 qu a1,false),(2,.bool s0.1,false),(7,sl 1 (sl 3 vel) s0.2.1,s0.2.2.2),(8,.int .i64 s0.2.2.1,false)],[]⟩
def qsw (a0:Option (List qi)) (a1:Option (List Int)) (d:(Bool × (Option (List (Option (List GEl)))) × Bool × Int)):jg × ASt:=(.exit 0,⟨[(0,sl 8 qn a0,false),(1,sl 1 qu a1,false),(2,.bool d.1,false),(7,sl 1 (sl 3 vel) d.2.1,d.2.2.1),(8,.int .i64 d.2.2.2,false),(20,.bool false,false)],[]⟩)
theorem jd6 (a0:Option (List qi)) (a1:Option (List Int)) (s0:Bool × (Option (List (Option (List GEl)))) × Int × Bool) (r) (h:qfu a0 a1 s0=some r):zd pr qki (qg1 a0 a1) (qsw a0 a1) s0 r:=by
 unfold qfu at h
 rcases qb h with ⟨h982,h⟩ | ⟨h982,h⟩
 ·obtain ⟨v983,h984,h⟩:=qa h
  obtain ⟨v985,h986,h⟩:=qa h
  obtain ⟨v987,h988,h⟩:=qa h
  have wh988:qc pr (X pr) 104 [.agg [.str v985.name,.str v985.kd,.int .i64 v985.pa,.int .i64 v985.pb,.int .i64 v985.sa,.int .i64 v985.sb,.int .i64 v985.cost,.int .i64 v985.stock]]=some (sl 3 vel v987.1,v987.2):=q6t h988
  obtain ⟨d1410,h1411,h⟩:=qa h
  have wh1411:X pr (.loop qjw) ⟨[(0,sl 8 qn a0,false),(1,sl 1 qu a1,false),(2,.bool s0.1,false),(7,sl 1 (sl 3 vel) s0.2.1,s0.2.2.2),(8,.int .i64 s0.2.2.1,false),(9,.list true 0 [],false),(10,.ptr 0 0,false),(11,sl 3 vel v987.1,v987.2),(12,.int .i64 0,false)],[.cells [(.str v985.name,false),(.str v985.kd,false),(.int .i64 v985.pa,false),(.int .i64 v985.pb,false),(.int .i64 v985.sa,false),(.int .i64 v985.sb,false),(.int .i64 v985.cost,false),(.int .i64 v985.stock,false)]]⟩=some (.exit 2,⟨[(0,sl 8 qn a0,false),(1,sl 1 qu a1,false),(2,.bool d1410.1,false),(7,sl 1 (sl 3 vel) s0.2.1,s0.2.2.2),(8,.int .i64 s0.2.2.1,false),(9,sl 1 (sl 3 vel) d1410.2.1,d1410.2.2.1),(10,.ptr 0 0,false),(11,sl 3 vel v987.1,v987.2),(12,.int .i64 d1410.2.2.2,false),(35,.bool false,false)],[.cells [(.str v985.name,false),(.str v985.kd,false),(.int .i64 v985.pa,false),(.int .i64 v985.pb,false),(.int .i64 v985.sa,false),(.int .i64 v985.sb,false),(.int .i64 v985.cost,false),(.int .i64 v985.stock,false)]]⟩):=jco a0 a1 s0 v985 v987 h1411
  cases h
  exact qo (st':=⟨[(0,sl 8 qn a0,false),(1,sl 1 qu a1,false),(2,.bool d1410.1,false),(7,sl 1 (sl 3 vel) d1410.2.1,d1410.2.2.1),(8,.int .i64 (qg .i64 (s0.2.2.1 + 1)),false)],[]++[.cells [(.str v985.name,false),(.str v985.kd,false),(.int .i64 v985.pa,false),(.int .i64 v985.pb,false),(.int .i64 v985.sa,false),(.int .i64 v985.sb,false),(.int .i64 v985.cost,false),(.int .i64 v985.stock,false)]]⟩) (by simp only [go_sem,seval,qki,qg1,h982,qw h984,qw h986,wh988,wh1411] <;> rfl) (zp rfl rfl (by first | simp only [go_sem,seval,qg1] | rfl) (by first | simp only [go_sem,seval,qg1] | rfl))
 ·cases h
  exact qj (by simp only [go_sem,seval,qki,qg1,h982,qsw] <;> rfl)
theorem jbz (a0:Option (List qi)) (a1:Option (List Int)) {s0:Bool × (Option (List (Option (List GEl)))) × Int × Bool} {d} (h:itO (qfu a0 a1) s0=some d):X pr (.loop qki) (qg1 a0 a1 s0)=some (qsw a0 a1 d):=zi (jd6 a0 a1) (fun d hh=>by cases hh) h
noncomputable def f112 (a0:Option (List qi)) (a1:Option (List Int)) (a2:Bool):Option ((Option (List (Option (List GEl)))) × Bool):=
 qd (itO (qfu a0 a1) (a2,some [none],0,true)) fun d1412=>
 some (d1412.2.1,d1412.2.2.1)
theorem jeh {a0:Option (List qi)} {a1:Option (List Int)} {a2:Bool} {r} (h:f112 a0 a1 a2=some r):qc pr (X pr) 112 [sl 8 qn a0,sl 1 qu a1,.bool a2]=some (sl 1 (sl 3 vel) r.1,r.2):=by
 unfold f112 at h
 obtain ⟨d1412,h1413,h⟩:=qa h
 have wh1413:X pr (.loop qki) ⟨[(0,sl 8 qn a0,false),(1,sl 1 qu a1,false),(2,.bool a2,false),(7,.list false 1 [.list true 0 []],true),(8,.int .i64 0,false)],[]⟩=some (.exit 0,⟨[(0,sl 8 qn a0,false),(1,sl 1 qu a1,false),(2,.bool d1412.1,false),(7,sl 1 (sl 3 vel) d1412.2.1,d1412.2.2.1),(8,.int .i64 d1412.2.2.2,false),(20,.bool false,false)],[]⟩):=jbz a0 a1 h1413
 have hr:(d1412.2.1,d1412.2.2.1)=r:=Option.some.inj h
 subst hr
 have this:∃ hh,jl pr (X pr) 112 [sl 8 qn a0,sl 1 qu a1,.bool a2] []=some (sl 1 (sl 3 vel) d1412.2.1,d1412.2.2.1,hh):=by
  rw [qf (show pr.fns 112=some c112 from rfl) (by simp)]
  simp only [go_sem,seval,c112,wh1413]
  exact ⟨_,rfl⟩
 obtain ⟨hh,this⟩:=this
 exact zt rfl this (by first | rfl | simp only [go_sem,seval]) (by first | rfl | simp only [go_sem,seval]) (by first | rfl | simp only [go_sem,seval])
end Go.Z
