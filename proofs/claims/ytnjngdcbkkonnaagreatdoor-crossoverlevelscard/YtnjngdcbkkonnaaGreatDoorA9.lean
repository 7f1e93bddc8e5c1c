/-
  Chapter 4: extremes, both sides: functions that mirror the runs, and the runs (printed by walk.py).
-/
import Derived.Test.YtnjngdcbkkonnaaGreatDoorA8
set_option linter.unusedVariables false
set_option linter.unusedSimpArgs false
set_option maxRecDepth 100000
set_option maxHeartbeats 4000000
namespace Go.Z
open Go Go.Abs
noncomputable def f29 (a0:Option (List GPart)) (a1:Option (List Int)) (a2:Int):Option (GQuad × Int):=
 obind (f111 a0 a1 a2 false) fun v1=>
 some (v1.1,v1.2)
theorem W29 {a0:Option (List GPart)} {a1:Option (List Int)} {a2:Int} {r} (h:f29 a0 a1 a2=some r):callIso pr (X pr) 29 [sl 8 vpart a0,sl 1 vint a1,.int .i64 a2]=some (.tup [.agg [.int .i64 r.1.a,.int .i64 r.1.b,.int .i64 r.1.c,.int .i64 r.1.d],.int .i64 r.2],false):=by
 unfold f29 at h
 obtain ⟨v1,h2,h⟩:=obind_some h
 have hr:(v1.1,v1.2)=r:=Option.some.inj h
 subst hr
 refine iso_F rfl ?_ (fun _=>by first | rfl | simp only [go_sem,seval]) (by first | rfl | simp only [go_sem,seval])
 rw [callFn_at (show pr.fns 29=some c29 from rfl) (by simp)]
 simp only [go_sem,seval,c29,W111 h2]
 exact ⟨_,rfl⟩
noncomputable def f31 (a0:Option (List GPart)) (a1:Option (List Int)) (a2:Int):Option (GRat × Int):=
 obind (f111 a0 a1 a2 true) fun v1=>
 some (⟨v1.1.a,v1.1.b⟩,v1.2)
theorem W31 {a0:Option (List GPart)} {a1:Option (List Int)} {a2:Int} {r} (h:f31 a0 a1 a2=some r):callIso pr (X pr) 31 [sl 8 vpart a0,sl 1 vint a1,.int .i64 a2]=some (.tup [.agg [.int .i64 r.1.num,.int .i64 r.1.den],.int .i64 r.2],false):=by
 unfold f31 at h
 obtain ⟨v1,h2,h⟩:=obind_some h
 have hr:(⟨v1.1.a,v1.1.b⟩,v1.2)=r:=Option.some.inj h
 subst hr
 refine iso_F rfl ?_ (fun _=>by first | rfl | simp only [go_sem,seval]) (by first | rfl | simp only [go_sem,seval])
 rw [callFn_at (show pr.fns 31=some c31 from rfl) (by simp)]
 simp only [go_sem,seval,c31,W111 h2]
 exact ⟨_,rfl⟩
noncomputable def f28 (a0:GCase):Option Bool:=
 obind (f36 a0.parts a0.bands 0) fun v1=>
 cond v1
  (some (decide (((a0.choice.getD []).length:Int)≤5)))
  (some false)
theorem W28 {a0:GCase} {r} (h:f28 a0=some r):callIso pr (X pr) 28 [.agg [sl 8 vpart a0.parts,sl 1 vint a0.choice,sl 5 vband a0.bands]]=some (.bool r,false):=by
 unfold f28 at h
 obtain ⟨v1,h2,h⟩:=obind_some h
 have wh2:callIso pr (X pr) 36 [sl 8 vpart a0.parts,sl 5 vband a0.bands,.int .i64 0]=some (.bool v1,false):=W36 h2
 rcases cond_split h with ⟨h3,h⟩ | ⟨h3,h⟩
 ·have hr:decide (((a0.choice.getD []).length:Int)≤5)=r:=Option.some.inj h
  subst hr
  refine iso_F rfl ?_ (fun _=>by first | rfl | simp only [go_sem,seval]) (by first | rfl | simp only [go_sem,seval])
  rw [callFn_at (show pr.fns 28=some c28 from rfl) (by simp)]
  simp only [go_sem,seval,c28,wh2,h3]
  exact ⟨_,rfl⟩
 ·have hr:false=r:=Option.some.inj h
  subst hr
  refine iso_F rfl ?_ (fun _=>by first | rfl | simp only [go_sem,seval]) (by first | rfl | simp only [go_sem,seval])
  rw [callFn_at (show pr.fns 28=some c28 from rfl) (by simp)]
  simp only [go_sem,seval,c28,wh2,h3]
  exact ⟨_,rfl⟩
end Go.Z
/-
 Chapter 4: extremes,both sides: functions that mirror the runs,and the runs (printed by walk.py).
-/
namespace Go.Z
open Go Go.Abs
theorem app_sl_3_vel_O {b t:Nat} {h:Heap} {bb:Bool} {p:Option (List GEl)} {o v:Option (List (Option (List GEl)))} (hv:apO o [p]=some v):appR 1 b h (some t) (some (sl 1 (sl 3 vel) o)) (some (.list bb 1 [sl 3 vel p]))=ifR (decide (b≤4096)) (some ⟨sl 1 (sl 3 vel) v,true,some t,h⟩):=app_el (x:=p) (by omega) rfl hv
theorem app_sl_3_vel_N {b:Nat} {h:Heap} {bb:Bool} {p:Option (List GEl)} {o v:Option (List (Option (List GEl)))} (hv:apO o [p]=some v) (hn:o.isNone=true):appR 1 b h none (some (sl 1 (sl 3 vel) o)) (some (.list bb 1 [sl 3 vel p]))=ifR (decide (b≤4096)) (some ⟨sl 1 (sl 3 vel) v,true,none,h⟩):=app_none (x:=p) (by omega) rfl hn hv
@[go_sem] theorem below_vels2 {n z:Nat} {l:Option (List (Option (List GEl)))}:below n (sl z (sl 3 vel) l)=true:=below_sl fun _=>below_vels
noncomputable def s112_2 (a0:Option (List GPart)) (a1:Option (List Int)) (s0:Bool × (Option (List (Option (List GEl)))) × Int × Bool) (v985:GPart) (v987:(Option (List GEl)) × Bool) (s1:Bool × (Option (List (Option (List GEl)))) × Int × Bool) (s2:Bool × (Option (List (Option (List GEl)))) × Int × Bool):Option ((Bool × (Option (List (Option (List GEl)))) × Int × Bool) ⊕ ((Bool × (Option (List (Option (List GEl)))) × Bool × Int))):=
 cond (decide (s2.2.2.1 < ((v987.1.getD []).length:Int)))
  (obind (idxO (v987.1.getD []) s2.2.2.1) fun v1366=>
  cond (decide ((max (wrapF .i64 (v1366.a - v985.pa)) (wrapF .i64 (v985.pa - v1366.a)))=v985.sa))
   (cond (decide ((max (wrapF .i64 (v1366.b - v985.pb)) (wrapF .i64 (v985.pb - v1366.b)))=v985.sb))
    (obind (idxO (s0.2.1.getD []) s1.2.2.1) fun v1370=>
    obind (apO (some []) (v1370.getD [])) fun v1372=>
    obind (apO v1372 [v1366]) fun v1374=>
    cond s2.2.2.2
     (obind (apO s2.2.1 [v1374]) fun v1377=>
     some (.inl (s2.1,v1377,wrapF .i64 (s2.2.2.1 + 1),true)))
     (cond s2.2.1.isNone
      (obind (apO s2.2.1 [v1374]) fun v1380=>
      some (.inl (s2.1,v1380,wrapF .i64 (s2.2.2.1 + 1),true)))
      (none)))
    (cond s2.1
     (some (.inl (true,s2.2.1,wrapF .i64 (s2.2.2.1 + 1),s2.2.2.2)))
     (obind (idxO (s0.2.1.getD []) s1.2.2.1) fun v1383=>
     obind (apO (some []) (v1383.getD [])) fun v1385=>
     obind (apO v1385 [v1366]) fun v1387=>
     cond s2.2.2.2
      (obind (apO s2.2.1 [v1387]) fun v1390=>
      some (.inl (false,v1390,wrapF .i64 (s2.2.2.1 + 1),true)))
      (cond s2.2.1.isNone
       (obind (apO s2.2.1 [v1387]) fun v1393=>
       some (.inl (false,v1393,wrapF .i64 (s2.2.2.1 + 1),true)))
       (none)))))
   (cond s2.1
    (some (.inl (true,s2.2.1,wrapF .i64 (s2.2.2.1 + 1),s2.2.2.2)))
    (obind (idxO (s0.2.1.getD []) s1.2.2.1) fun v1396=>
    obind (apO (some []) (v1396.getD [])) fun v1398=>
    obind (apO v1398 [v1366]) fun v1400=>
    cond s2.2.2.2
     (obind (apO s2.2.1 [v1400]) fun v1403=>
     some (.inl (false,v1403,wrapF .i64 (s2.2.2.1 + 1),true)))
     (cond s2.2.1.isNone
      (obind (apO s2.2.1 [v1400]) fun v1406=>
      some (.inl (false,v1406,wrapF .i64 (s2.2.2.1 + 1),true)))
      (none)))))
  (some (.inr (s2.1,s2.2.1,s2.2.2.2,s2.2.2.1)))
def St112_2 (a0:Option (List GPart)) (a1:Option (List Int)) (s0:Bool × (Option (List (Option (List GEl)))) × Int × Bool) (v985:GPart) (v987:(Option (List GEl)) × Bool) (s1:Bool × (Option (List (Option (List GEl)))) × Int × Bool) (s2:Bool × (Option (List (Option (List GEl)))) × Int × Bool):ASt:=⟨[(0,sl 8 vpart a0,false),(1,sl 1 vint a1,false),(2,.bool s2.1,false),(7,sl 1 (sl 3 vel) s0.2.1,s0.2.2.2),(8,.int .i64 s0.2.2.1,false),(9,sl 1 (sl 3 vel) s2.2.1,s2.2.2.2),(10,.ptr 0 0,false),(11,sl 3 vel v987.1,v987.2),(12,.int .i64 s1.2.2.1,false),(13,.int .i64 s2.2.2.1,false)],[.cells [(.str v985.name,false),(.str v985.kd,false),(.int .i64 v985.pa,false),(.int .i64 v985.pb,false),(.int .i64 v985.sa,false),(.int .i64 v985.sb,false),(.int .i64 v985.cost,false),(.int .i64 v985.stock,false)]]⟩
def Ex112_2 (a0:Option (List GPart)) (a1:Option (List Int)) (s0:Bool × (Option (List (Option (List GEl)))) × Int × Bool) (v985:GPart) (v987:(Option (List GEl)) × Bool) (s1:Bool × (Option (List (Option (List GEl)))) × Int × Bool) (d:(Bool × (Option (List (Option (List GEl)))) × Bool × Int)):AExit × ASt:=(.exit 4,⟨[(0,sl 8 vpart a0,false),(1,sl 1 vint a1,false),(2,.bool d.1,false),(7,sl 1 (sl 3 vel) s0.2.1,s0.2.2.2),(8,.int .i64 s0.2.2.1,false),(9,sl 1 (sl 3 vel) d.2.1,d.2.2.1),(10,.ptr 0 0,false),(11,sl 3 vel v987.1,v987.2),(12,.int .i64 s1.2.2.1,false),(13,.int .i64 d.2.2.2,false),(41,.bool false,false)],[.cells [(.str v985.name,false),(.str v985.kd,false),(.int .i64 v985.pa,false),(.int .i64 v985.pb,false),(.int .i64 v985.sa,false),(.int .i64 v985.sb,false),(.int .i64 v985.cost,false),(.int .i64 v985.stock,false)]]⟩)
theorem b112_2 (a0:Option (List GPart)) (a1:Option (List Int)) (s0:Bool × (Option (List (Option (List GEl)))) × Int × Bool) (v985:GPart) (v987:(Option (List GEl)) × Bool) (s1:Bool × (Option (List (Option (List GEl)))) × Int × Bool) (s2:Bool × (Option (List (Option (List GEl)))) × Int × Bool) (r) (h:s112_2 a0 a1 s0 v985 v987 s1 s2=some r):stepO pr c112_2 (St112_2 a0 a1 s0 v985 v987 s1) (Ex112_2 a0 a1 s0 v985 v987 s1) s2 r:=by
 unfold s112_2 at h
 rcases cond_split h with ⟨h1365,h⟩ | ⟨h1365,h⟩
 ·obtain ⟨v1366,h1367,h⟩:=obind_some h
  rcases cond_split h with ⟨h1368,h⟩ | ⟨h1368,h⟩
  ·rcases cond_split h with ⟨h1369,h⟩ | ⟨h1369,h⟩
   ·obtain ⟨v1370,h1371,h⟩:=obind_some h
    obtain ⟨v1372,h1373,h⟩:=obind_some h
    obtain ⟨v1374,h1375,h⟩:=obind_some h
    rcases cond_split h with ⟨h1376,h⟩ | ⟨h1376,h⟩
    ·obtain ⟨v1377,h1378,h⟩:=obind_some h
     cases h
     exact stepO_in (st':=⟨[(0,sl 8 vpart a0,false),(1,sl 1 vint a1,false),(2,.bool s2.1,false),(7,sl 1 (sl 3 vel) s0.2.1,s0.2.2.2),(8,.int .i64 s0.2.2.1,false),(9,sl 1 (sl 3 vel) v1377,true),(10,.ptr 0 0,false),(11,sl 3 vel v987.1,v987.2),(12,.int .i64 s1.2.2.1,false),(13,.int .i64 (wrapF .i64 (s2.2.2.1 + 1)),false)],[.cells [(.str v985.name,false),(.str v985.kd,false),(.int .i64 v985.pa,false),(.int .i64 v985.pb,false),(.int .i64 v985.sa,false),(.int .i64 v985.sb,false),(.int .i64 v985.cost,false),(.int .i64 v985.stock,false)]]++[.cells [(.str v1366.kind,false),(.int .i64 v1366.a,false),(.int .i64 v1366.b,false)]]⟩) (by simp only [go_sem,seval,c112_2,St112_2,h1365,idxR_O h1367,h1368,h1369,idxR_O h1371,app_lit_O h1373,app_vel_O h1375,h1376,app_sl_3_vel_O h1378] <;> rfl) (gc_over rfl rfl (by first | simp only [go_sem,seval,St112_2] | rfl) (by first | simp only [go_sem,seval,St112_2] | rfl))
    ·rcases cond_split h with ⟨h1379,h⟩ | ⟨h1379,h⟩
     ·obtain ⟨v1380,h1381,h⟩:=obind_some h
      cases h
      exact stepO_in (st':=⟨[(0,sl 8 vpart a0,false),(1,sl 1 vint a1,false),(2,.bool s2.1,false),(7,sl 1 (sl 3 vel) s0.2.1,s0.2.2.2),(8,.int .i64 s0.2.2.1,false),(9,sl 1 (sl 3 vel) v1380,true),(10,.ptr 0 0,false),(11,sl 3 vel v987.1,v987.2),(12,.int .i64 s1.2.2.1,false),(13,.int .i64 (wrapF .i64 (s2.2.2.1 + 1)),false)],[.cells [(.str v985.name,false),(.str v985.kd,false),(.int .i64 v985.pa,false),(.int .i64 v985.pb,false),(.int .i64 v985.sa,false),(.int .i64 v985.sb,false),(.int .i64 v985.cost,false),(.int .i64 v985.stock,false)]]++[.cells [(.str v1366.kind,false),(.int .i64 v1366.a,false),(.int .i64 v1366.b,false)]]⟩) (by simp only [go_sem,seval,c112_2,St112_2,h1365,idxR_O h1367,h1368,h1369,idxR_O h1371,app_lit_O h1373,app_vel_O h1375,h1376,h1379,app_sl_3_vel_N h1381 h1379] <;> rfl) (gc_over rfl rfl (by first | simp only [go_sem,seval,St112_2] | rfl) (by first | simp only [go_sem,seval,St112_2] | rfl))
     ·cases h
   ·rcases cond_split h with ⟨h1382,h⟩ | ⟨h1382,h⟩
    ·cases h
     exact stepO_in (st':=⟨[(0,sl 8 vpart a0,false),(1,sl 1 vint a1,false),(2,.bool true,false),(7,sl 1 (sl 3 vel) s0.2.1,s0.2.2.2),(8,.int .i64 s0.2.2.1,false),(9,sl 1 (sl 3 vel) s2.2.1,s2.2.2.2),(10,.ptr 0 0,false),(11,sl 3 vel v987.1,v987.2),(12,.int .i64 s1.2.2.1,false),(13,.int .i64 (wrapF .i64 (s2.2.2.1 + 1)),false)],[.cells [(.str v985.name,false),(.str v985.kd,false),(.int .i64 v985.pa,false),(.int .i64 v985.pb,false),(.int .i64 v985.sa,false),(.int .i64 v985.sb,false),(.int .i64 v985.cost,false),(.int .i64 v985.stock,false)]]++[.cells [(.str v1366.kind,false),(.int .i64 v1366.a,false),(.int .i64 v1366.b,false)]]⟩) (by simp only [go_sem,seval,c112_2,St112_2,h1365,idxR_O h1367,h1368,h1369,h1382] <;> rfl) (gc_over rfl rfl (by first | simp only [go_sem,seval,St112_2] | rfl) (by first | simp only [go_sem,seval,St112_2] | rfl))
    ·obtain ⟨v1383,h1384,h⟩:=obind_some h
     obtain ⟨v1385,h1386,h⟩:=obind_some h
     obtain ⟨v1387,h1388,h⟩:=obind_some h
     rcases cond_split h with ⟨h1389,h⟩ | ⟨h1389,h⟩
     ·obtain ⟨v1390,h1391,h⟩:=obind_some h
      cases h
      exact stepO_in (st':=⟨[(0,sl 8 vpart a0,false),(1,sl 1 vint a1,false),(2,.bool false,false),(7,sl 1 (sl 3 vel) s0.2.1,s0.2.2.2),(8,.int .i64 s0.2.2.1,false),(9,sl 1 (sl 3 vel) v1390,true),(10,.ptr 0 0,false),(11,sl 3 vel v987.1,v987.2),(12,.int .i64 s1.2.2.1,false),(13,.int .i64 (wrapF .i64 (s2.2.2.1 + 1)),false)],[.cells [(.str v985.name,false),(.str v985.kd,false),(.int .i64 v985.pa,false),(.int .i64 v985.pb,false),(.int .i64 v985.sa,false),(.int .i64 v985.sb,false),(.int .i64 v985.cost,false),(.int .i64 v985.stock,false)]]++[.cells [(.str v1366.kind,false),(.int .i64 v1366.a,false),(.int .i64 v1366.b,false)]]⟩) (by simp only [go_sem,seval,c112_2,St112_2,h1365,idxR_O h1367,h1368,h1369,h1382,idxR_O h1384,app_lit_O h1386,app_vel_O h1388,h1389,app_sl_3_vel_O h1391] <;> rfl) (gc_over rfl rfl (by first | simp only [go_sem,seval,St112_2] | rfl) (by first | simp only [go_sem,seval,St112_2] | rfl))
     ·rcases cond_split h with ⟨h1392,h⟩ | ⟨h1392,h⟩
      ·obtain ⟨v1393,h1394,h⟩:=obind_some h
       cases h
       exact stepO_in (st':=⟨[(0,sl 8 vpart a0,false),(1,sl 1 vint a1,false),(2,.bool false,false),(7,sl 1 (sl 3 vel) s0.2.1,s0.2.2.2),(8,.int .i64 s0.2.2.1,false),(9,sl 1 (sl 3 vel) v1393,true),(10,.ptr 0 0,false),(11,sl 3 vel v987.1,v987.2),(12,.int .i64 s1.2.2.1,false),(13,.int .i64 (wrapF .i64 (s2.2.2.1 + 1)),false)],[.cells [(.str v985.name,false),(.str v985.kd,false),(.int .i64 v985.pa,false),(.int .i64 v985.pb,false),(.int .i64 v985.sa,false),(.int .i64 v985.sb,false),(.int .i64 v985.cost,false),(.int .i64 v985.stock,false)]]++[.cells [(.str v1366.kind,false),(.int .i64 v1366.a,false),(.int .i64 v1366.b,false)]]⟩) (by simp only [go_sem,seval,c112_2,St112_2,h1365,idxR_O h1367,h1368,h1369,h1382,idxR_O h1384,app_lit_O h1386,app_vel_O h1388,h1389,h1392,app_sl_3_vel_N h1394 h1392] <;> rfl) (gc_over rfl rfl (by first | simp only [go_sem,seval,St112_2] | rfl) (by first | simp only [go_sem,seval,St112_2] | rfl))
      ·cases h
  ·rcases cond_split h with ⟨h1395,h⟩ | ⟨h1395,h⟩
   ·cases h
    exact stepO_in (st':=⟨[(0,sl 8 vpart a0,false),(1,sl 1 vint a1,false),(2,.bool true,false),(7,sl 1 (sl 3 vel) s0.2.1,s0.2.2.2),(8,.int .i64 s0.2.2.1,false),(9,sl 1 (sl 3 vel) s2.2.1,s2.2.2.2),(10,.ptr 0 0,false),(11,sl 3 vel v987.1,v987.2),(12,.int .i64 s1.2.2.1,false),(13,.int .i64 (wrapF .i64 (s2.2.2.1 + 1)),false)],[.cells [(.str v985.name,false),(.str v985.kd,false),(.int .i64 v985.pa,false),(.int .i64 v985.pb,false),(.int .i64 v985.sa,false),(.int .i64 v985.sb,false),(.int .i64 v985.cost,false),(.int .i64 v985.stock,false)]]++[.cells [(.str v1366.kind,false),(.int .i64 v1366.a,false),(.int .i64 v1366.b,false)]]⟩) (by simp only [go_sem,seval,c112_2,St112_2,h1365,idxR_O h1367,h1368,h1395] <;> rfl) (gc_over rfl rfl (by first | simp only [go_sem,seval,St112_2] | rfl) (by first | simp only [go_sem,seval,St112_2] | rfl))
   ·obtain ⟨v1396,h1397,h⟩:=obind_some h
    obtain ⟨v1398,h1399,h⟩:=obind_some h
    obtain ⟨v1400,h1401,h⟩:=obind_some h
    rcases cond_split h with ⟨h1402,h⟩ | ⟨h1402,h⟩
    ·obtain ⟨v1403,h1404,h⟩:=obind_some h
     cases h
     exact stepO_in (st':=⟨[(0,sl 8 vpart a0,false),(1,sl 1 vint a1,false),(2,.bool false,false),(7,sl 1 (sl 3 vel) s0.2.1,s0.2.2.2),(8,.int .i64 s0.2.2.1,false),(9,sl 1 (sl 3 vel) v1403,true),(10,.ptr 0 0,false),(11,sl 3 vel v987.1,v987.2),(12,.int .i64 s1.2.2.1,false),(13,.int .i64 (wrapF .i64 (s2.2.2.1 + 1)),false)],[.cells [(.str v985.name,false),(.str v985.kd,false),(.int .i64 v985.pa,false),(.int .i64 v985.pb,false),(.int .i64 v985.sa,false),(.int .i64 v985.sb,false),(.int .i64 v985.cost,false),(.int .i64 v985.stock,false)]]++[.cells [(.str v1366.kind,false),(.int .i64 v1366.a,false),(.int .i64 v1366.b,false)]]⟩) (by simp only [go_sem,seval,c112_2,St112_2,h1365,idxR_O h1367,h1368,h1395,idxR_O h1397,app_lit_O h1399,app_vel_O h1401,h1402,app_sl_3_vel_O h1404] <;> rfl) (gc_over rfl rfl (by first | simp only [go_sem,seval,St112_2] | rfl) (by first | simp only [go_sem,seval,St112_2] | rfl))
    ·rcases cond_split h with ⟨h1405,h⟩ | ⟨h1405,h⟩
     ·obtain ⟨v1406,h1407,h⟩:=obind_some h
      cases h
      exact stepO_in (st':=⟨[(0,sl 8 vpart a0,false),(1,sl 1 vint a1,false),(2,.bool false,false),(7,sl 1 (sl 3 vel) s0.2.1,s0.2.2.2),(8,.int .i64 s0.2.2.1,false),(9,sl 1 (sl 3 vel) v1406,true),(10,.ptr 0 0,false),(11,sl 3 vel v987.1,v987.2),(12,.int .i64 s1.2.2.1,false),(13,.int .i64 (wrapF .i64 (s2.2.2.1 + 1)),false)],[.cells [(.str v985.name,false),(.str v985.kd,false),(.int .i64 v985.pa,false),(.int .i64 v985.pb,false),(.int .i64 v985.sa,false),(.int .i64 v985.sb,false),(.int .i64 v985.cost,false),(.int .i64 v985.stock,false)]]++[.cells [(.str v1366.kind,false),(.int .i64 v1366.a,false),(.int .i64 v1366.b,false)]]⟩) (by simp only [go_sem,seval,c112_2,St112_2,h1365,idxR_O h1367,h1368,h1395,idxR_O h1397,app_lit_O h1399,app_vel_O h1401,h1402,h1405,app_sl_3_vel_N h1407 h1405] <;> rfl) (gc_over rfl rfl (by first | simp only [go_sem,seval,St112_2] | rfl) (by first | simp only [go_sem,seval,St112_2] | rfl))
     ·cases h
 ·cases h
  exact stepO_out (by simp only [go_sem,seval,c112_2,St112_2,h1365,Ex112_2] <;> rfl)
theorem l112_2 (a0:Option (List GPart)) (a1:Option (List Int)) (s0:Bool × (Option (List (Option (List GEl)))) × Int × Bool) (v985:GPart) (v987:(Option (List GEl)) × Bool) (s1:Bool × (Option (List (Option (List GEl)))) × Int × Bool) {s2:Bool × (Option (List (Option (List GEl)))) × Int × Bool} {d} (h:itO (s112_2 a0 a1 s0 v985 v987 s1) s2=some d):X pr (.loop c112_2) (St112_2 a0 a1 s0 v985 v987 s1 s2)=some (Ex112_2 a0 a1 s0 v985 v987 s1 d):=X_itO (b112_2 a0 a1 s0 v985 v987 s1) (fun d hh=>by cases hh) h
noncomputable def s112_1 (a0:Option (List GPart)) (a1:Option (List Int)) (s0:Bool × (Option (List (Option (List GEl)))) × Int × Bool) (v985:GPart) (v987:(Option (List GEl)) × Bool) (s1:Bool × (Option (List (Option (List GEl)))) × Int × Bool):Option ((Bool × (Option (List (Option (List GEl)))) × Int × Bool) ⊕ ((Bool × (Option (List (Option (List GEl)))) × Bool × Int))):=
 cond (decide (s1.2.2.1 < ((s0.2.1.getD []).length:Int)))
  (obind (itO (s112_2 a0 a1 s0 v985 v987 s1) (s1.1,s1.2.1,0,s1.2.2.2)) fun d1408=>
  some (.inl (d1408.1,d1408.2.1,wrapF .i64 (s1.2.2.1 + 1),d1408.2.2.1)))
  (some (.inr (s1.1,s1.2.1,s1.2.2.2,s1.2.2.1)))
def St112_1 (a0:Option (List GPart)) (a1:Option (List Int)) (s0:Bool × (Option (List (Option (List GEl)))) × Int × Bool) (v985:GPart) (v987:(Option (List GEl)) × Bool) (s1:Bool × (Option (List (Option (List GEl)))) × Int × Bool):ASt:=⟨[(0,sl 8 vpart a0,false),(1,sl 1 vint a1,false),(2,.bool s1.1,false),(7,sl 1 (sl 3 vel) s0.2.1,s0.2.2.2),(8,.int .i64 s0.2.2.1,false),(9,sl 1 (sl 3 vel) s1.2.1,s1.2.2.2),(10,.ptr 0 0,false),(11,sl 3 vel v987.1,v987.2),(12,.int .i64 s1.2.2.1,false)],[.cells [(.str v985.name,false),(.str v985.kd,false),(.int .i64 v985.pa,false),(.int .i64 v985.pb,false),(.int .i64 v985.sa,false),(.int .i64 v985.sb,false),(.int .i64 v985.cost,false),(.int .i64 v985.stock,false)]]⟩
def Ex112_1 (a0:Option (List GPart)) (a1:Option (List Int)) (s0:Bool × (Option (List (Option (List GEl)))) × Int × Bool) (v985:GPart) (v987:(Option (List GEl)) × Bool) (d:(Bool × (Option (List (Option (List GEl)))) × Bool × Int)):AExit × ASt:=(.exit 2,⟨[(0,sl 8 vpart a0,false),(1,sl 1 vint a1,false),(2,.bool d.1,false),(7,sl 1 (sl 3 vel) s0.2.1,s0.2.2.2),(8,.int .i64 s0.2.2.1,false),(9,sl 1 (sl 3 vel) d.2.1,d.2.2.1),(10,.ptr 0 0,false),(11,sl 3 vel v987.1,v987.2),(12,.int .i64 d.2.2.2,false),(35,.bool false,false)],[.cells [(.str v985.name,false),(.str v985.kd,false),(.int .i64 v985.pa,false),(.int .i64 v985.pb,false),(.int .i64 v985.sa,false),(.int .i64 v985.sb,false),(.int .i64 v985.cost,false),(.int .i64 v985.stock,false)]]⟩)
theorem b112_1 (a0:Option (List GPart)) (a1:Option (List Int)) (s0:Bool × (Option (List (Option (List GEl)))) × Int × Bool) (v985:GPart) (v987:(Option (List GEl)) × Bool) (s1:Bool × (Option (List (Option (List GEl)))) × Int × Bool) (r) (h:s112_1 a0 a1 s0 v985 v987 s1=some r):stepO pr c112_1 (St112_1 a0 a1 s0 v985 v987) (Ex112_1 a0 a1 s0 v985 v987) s1 r:=by
 unfold s112_1 at h
 rcases cond_split h with ⟨h1278,h⟩ | ⟨h1278,h⟩
 ·obtain ⟨d1408,h1409,h⟩:=obind_some h
  have wh1409:X pr (.loop c112_2) ⟨[(0,sl 8 vpart a0,false),(1,sl 1 vint a1,false),(2,.bool s1.1,false),(7,sl 1 (sl 3 vel) s0.2.1,s0.2.2.2),(8,.int .i64 s0.2.2.1,false),(9,sl 1 (sl 3 vel) s1.2.1,s1.2.2.2),(10,.ptr 0 0,false),(11,sl 3 vel v987.1,v987.2),(12,.int .i64 s1.2.2.1,false),(13,.int .i64 0,false)],[.cells [(.str v985.name,false),(.str v985.kd,false),(.int .i64 v985.pa,false),(.int .i64 v985.pb,false),(.int .i64 v985.sa,false),(.int .i64 v985.sb,false),(.int .i64 v985.cost,false),(.int .i64 v985.stock,false)]]⟩=some (.exit 4,⟨[(0,sl 8 vpart a0,false),(1,sl 1 vint a1,false),(2,.bool d1408.1,false),(7,sl 1 (sl 3 vel) s0.2.1,s0.2.2.2),(8,.int .i64 s0.2.2.1,false),(9,sl 1 (sl 3 vel) d1408.2.1,d1408.2.2.1),(10,.ptr 0 0,false),(11,sl 3 vel v987.1,v987.2),(12,.int .i64 s1.2.2.1,false),(13,.int .i64 d1408.2.2.2,false),(41,.bool false,false)],[.cells [(.str v985.name,false),(.str v985.kd,false),(.int .i64 v985.pa,false),(.int .i64 v985.pb,false),(.int .i64 v985.sa,false),(.int .i64 v985.sb,false),(.int .i64 v985.cost,false),(.int .i64 v985.stock,false)]]⟩):=l112_2 a0 a1 s0 v985 v987 s1 h1409
  cases h
  exact stepO_in (st':=⟨[(0,sl 8 vpart a0,false),(1,sl 1 vint a1,false),(2,.bool d1408.1,false),(7,sl 1 (sl 3 vel) s0.2.1,s0.2.2.2),(8,.int .i64 s0.2.2.1,false),(9,sl 1 (sl 3 vel) d1408.2.1,d1408.2.2.1),(10,.ptr 0 0,false),(11,sl 3 vel v987.1,v987.2),(12,.int .i64 (wrapF .i64 (s1.2.2.1 + 1)),false)],[.cells [(.str v985.name,false),(.str v985.kd,false),(.int .i64 v985.pa,false),(.int .i64 v985.pb,false),(.int .i64 v985.sa,false),(.int .i64 v985.sb,false),(.int .i64 v985.cost,false),(.int .i64 v985.stock,false)]]⟩) (by simp only [go_sem,seval,c112_1,St112_1,h1278,wh1409] <;> rfl) (gc_same (Nat.le_refl _))
 ·cases h
  exact stepO_out (by simp only [go_sem,seval,c112_1,St112_1,h1278,Ex112_1] <;> rfl)
theorem l112_1 (a0:Option (List GPart)) (a1:Option (List Int)) (s0:Bool × (Option (List (Option (List GEl)))) × Int × Bool) (v985:GPart) (v987:(Option (List GEl)) × Bool) {s1:Bool × (Option (List (Option (List GEl)))) × Int × Bool} {d} (h:itO (s112_1 a0 a1 s0 v985 v987) s1=some d):X pr (.loop c112_1) (St112_1 a0 a1 s0 v985 v987 s1)=some (Ex112_1 a0 a1 s0 v985 v987 d):=X_itO (b112_1 a0 a1 s0 v985 v987) (fun d hh=>by cases hh) h
noncomputable def s112_0 (a0:Option (List GPart)) (a1:Option (List Int)) (s0:Bool × (Option (List (Option (List GEl)))) × Int × Bool):Option ((Bool × (Option (List (Option (List GEl)))) × Int × Bool) ⊕ ((Bool × (Option (List (Option (List GEl)))) × Bool × Int))):=
 cond (decide (s0.2.2.1 < ((a1.getD []).length:Int)))
  (obind (idxO (a1.getD []) s0.2.2.1) fun v983=>
  obind (idxO (a0.getD []) v983) fun v985=>
  obind (f104 v985) fun v987=>
  obind (itO (s112_1 a0 a1 s0 v985 v987) (s0.1,none,0,false)) fun d1410=>
  some (.inl (d1410.1,d1410.2.1,wrapF .i64 (s0.2.2.1 + 1),d1410.2.2.1)))
  (some (.inr (s0.1,s0.2.1,s0.2.2.2,s0.2.2.1)))
def St112_0 (a0:Option (List GPart)) (a1:Option (List Int)) (s0:Bool × (Option (List (Option (List GEl)))) × Int × Bool):ASt:=⟨[(0,sl 8 vpart a0,false),(1,sl 1 vint a1,false),(2,.bool s0.1,false),(7,sl 1 (sl 3 vel) s0.2.1,s0.2.2.2),(8,.int .i64 s0.2.2.1,false)],[]⟩
def Ex112_0 (a0:Option (List GPart)) (a1:Option (List Int)) (d:(Bool × (Option (List (Option (List GEl)))) × Bool × Int)):AExit × ASt:=(.exit 0,⟨[(0,sl 8 vpart a0,false),(1,sl 1 vint a1,false),(2,.bool d.1,false),(7,sl 1 (sl 3 vel) d.2.1,d.2.2.1),(8,.int .i64 d.2.2.2,false),(20,.bool false,false)],[]⟩)
theorem b112_0 (a0:Option (List GPart)) (a1:Option (List Int)) (s0:Bool × (Option (List (Option (List GEl)))) × Int × Bool) (r) (h:s112_0 a0 a1 s0=some r):stepO pr c112_0 (St112_0 a0 a1) (Ex112_0 a0 a1) s0 r:=by
 unfold s112_0 at h
 rcases cond_split h with ⟨h982,h⟩ | ⟨h982,h⟩
 ·obtain ⟨v983,h984,h⟩:=obind_some h
  obtain ⟨v985,h986,h⟩:=obind_some h
  obtain ⟨v987,h988,h⟩:=obind_some h
  have wh988:callIso pr (X pr) 104 [.agg [.str v985.name,.str v985.kd,.int .i64 v985.pa,.int .i64 v985.pb,.int .i64 v985.sa,.int .i64 v985.sb,.int .i64 v985.cost,.int .i64 v985.stock]]=some (sl 3 vel v987.1,v987.2):=W104 h988
  obtain ⟨d1410,h1411,h⟩:=obind_some h
  have wh1411:X pr (.loop c112_1) ⟨[(0,sl 8 vpart a0,false),(1,sl 1 vint a1,false),(2,.bool s0.1,false),(7,sl 1 (sl 3 vel) s0.2.1,s0.2.2.2),(8,.int .i64 s0.2.2.1,false),(9,.list true 0 [],false),(10,.ptr 0 0,false),(11,sl 3 vel v987.1,v987.2),(12,.int .i64 0,false)],[.cells [(.str v985.name,false),(.str v985.kd,false),(.int .i64 v985.pa,false),(.int .i64 v985.pb,false),(.int .i64 v985.sa,false),(.int .i64 v985.sb,false),(.int .i64 v985.cost,false),(.int .i64 v985.stock,false)]]⟩=some (.exit 2,⟨[(0,sl 8 vpart a0,false),(1,sl 1 vint a1,false),(2,.bool d1410.1,false),(7,sl 1 (sl 3 vel) s0.2.1,s0.2.2.2),(8,.int .i64 s0.2.2.1,false),(9,sl 1 (sl 3 vel) d1410.2.1,d1410.2.2.1),(10,.ptr 0 0,false),(11,sl 3 vel v987.1,v987.2),(12,.int .i64 d1410.2.2.2,false),(35,.bool false,false)],[.cells [(.str v985.name,false),(.str v985.kd,false),(.int .i64 v985.pa,false),(.int .i64 v985.pb,false),(.int .i64 v985.sa,false),(.int .i64 v985.sb,false),(.int .i64 v985.cost,false),(.int .i64 v985.stock,false)]]⟩):=l112_1 a0 a1 s0 v985 v987 h1411
  cases h
  exact stepO_in (st':=⟨[(0,sl 8 vpart a0,false),(1,sl 1 vint a1,false),(2,.bool d1410.1,false),(7,sl 1 (sl 3 vel) d1410.2.1,d1410.2.2.1),(8,.int .i64 (wrapF .i64 (s0.2.2.1 + 1)),false)],[]++[.cells [(.str v985.name,false),(.str v985.kd,false),(.int .i64 v985.pa,false),(.int .i64 v985.pb,false),(.int .i64 v985.sa,false),(.int .i64 v985.sb,false),(.int .i64 v985.cost,false),(.int .i64 v985.stock,false)]]⟩) (by simp only [go_sem,seval,c112_0,St112_0,h982,idxR_O h984,idxR_O h986,wh988,wh1411] <;> rfl) (gc_over rfl rfl (by first | simp only [go_sem,seval,St112_0] | rfl) (by first | simp only [go_sem,seval,St112_0] | rfl))
 ·cases h
  exact stepO_out (by simp only [go_sem,seval,c112_0,St112_0,h982,Ex112_0] <;> rfl)
theorem l112_0 (a0:Option (List GPart)) (a1:Option (List Int)) {s0:Bool × (Option (List (Option (List GEl)))) × Int × Bool} {d} (h:itO (s112_0 a0 a1) s0=some d):X pr (.loop c112_0) (St112_0 a0 a1 s0)=some (Ex112_0 a0 a1 d):=X_itO (b112_0 a0 a1) (fun d hh=>by cases hh) h
noncomputable def f112 (a0:Option (List GPart)) (a1:Option (List Int)) (a2:Bool):Option ((Option (List (Option (List GEl)))) × Bool):=
 obind (itO (s112_0 a0 a1) (a2,some [none],0,true)) fun d1412=>
 some (d1412.2.1,d1412.2.2.1)
theorem W112 {a0:Option (List GPart)} {a1:Option (List Int)} {a2:Bool} {r} (h:f112 a0 a1 a2=some r):callIso pr (X pr) 112 [sl 8 vpart a0,sl 1 vint a1,.bool a2]=some (sl 1 (sl 3 vel) r.1,r.2):=by
 unfold f112 at h
 obtain ⟨d1412,h1413,h⟩:=obind_some h
 have wh1413:X pr (.loop c112_0) ⟨[(0,sl 8 vpart a0,false),(1,sl 1 vint a1,false),(2,.bool a2,false),(7,.list false 1 [.list true 0 []],true),(8,.int .i64 0,false)],[]⟩=some (.exit 0,⟨[(0,sl 8 vpart a0,false),(1,sl 1 vint a1,false),(2,.bool d1412.1,false),(7,sl 1 (sl 3 vel) d1412.2.1,d1412.2.2.1),(8,.int .i64 d1412.2.2.2,false),(20,.bool false,false)],[]⟩):=l112_0 a0 a1 h1413
 have hr:(d1412.2.1,d1412.2.2.1)=r:=Option.some.inj h
 subst hr
 have this:∃ hh,callFn pr (X pr) 112 [sl 8 vpart a0,sl 1 vint a1,.bool a2] []=some (sl 1 (sl 3 vel) d1412.2.1,d1412.2.2.1,hh):=by
  rw [callFn_at (show pr.fns 112=some c112 from rfl) (by simp)]
  simp only [go_sem,seval,c112,wh1413]
  exact ⟨_,rfl⟩
 obtain ⟨hh,this⟩:=this
 exact callIso_of_dyn rfl this (by first | rfl | simp only [go_sem,seval]) (by first | rfl | simp only [go_sem,seval]) (by first | rfl | simp only [go_sem,seval])
noncomputable def s35_0 (a2:Int) (v1:(Option (List (Option (List GEl)))) × Bool) (s0:Int × Int × Int × Int × Int):Option ((Int × Int × Int × Int × Int) ⊕ ((Int × Int × Int × Int × Int × Int) ⊕ (Int × Int × Int × Int × Int))):=
 cond (decide (s0.1 < ((v1.1.getD []).length:Int)))
  (obind (idxO (v1.1.getD []) s0.1) fun v26=>
  obind (f113 v26 a2) fun v28=>
  cond (decide (v28.2=0))
   (cond (decide (s0.1=0))
    (some (.inl (wrapF .i64 (s0.1 + 1),v28.1.num,v28.1.den,v28.1.num,v28.1.den)))
    (obind (f58 200 v28.1 (⟨s0.2.1,s0.2.2.1⟩)) fun v32=>
    cond v32
     (obind (f58 200 (⟨s0.2.2.2.1,s0.2.2.2.2⟩) v28.1) fun v35=>
     cond v35
      (some (.inl (wrapF .i64 (s0.1 + 1),v28.1.num,v28.1.den,v28.1.num,v28.1.den)))
      (some (.inl (wrapF .i64 (s0.1 + 1),v28.1.num,v28.1.den,s0.2.2.2.1,s0.2.2.2.2))))
     (obind (f58 200 (⟨s0.2.2.2.1,s0.2.2.2.2⟩) v28.1) fun v38=>
     cond v38
      (some (.inl (wrapF .i64 (s0.1 + 1),s0.2.1,s0.2.2.1,v28.1.num,v28.1.den)))
      (some (.inl (wrapF .i64 (s0.1 + 1),s0.2.1,s0.2.2.1,s0.2.2.2.1,s0.2.2.2.2))))))
   (some (.inr (.inl (s0.2.1,s0.2.2.1,s0.2.2.2.1,s0.2.2.2.2,v28.1.num,v28.1.den)))))
  (some (.inr (.inr (s0.1,s0.2.1,s0.2.2.1,s0.2.2.2.1,s0.2.2.2.2))))
def St35_0 (a2:Int) (v1:(Option (List (Option (List GEl)))) × Bool) (s0:Int × Int × Int × Int × Int):ASt:=⟨[(2,.int .i64 a2,false),(8,.ptr 0 0,false),(10,.ptr 1 0,false),(11,sl 1 (sl 3 vel) v1.1,v1.2),(12,.int .i64 s0.1,false)],[.cells [(.int .i64 0,false),(.int .i64 0,false),(.int .i64 0,false),(.int .i64 0,false)],.cells [(.int .i64 s0.2.1,false),(.int .i64 s0.2.2.1,false),(.int .i64 s0.2.2.2.1,false),(.int .i64 s0.2.2.2.2,false)]]⟩
def Ex35_0 (a2:Int) (v1:(Option (List (Option (List GEl)))) × Bool):(Int × Int × Int × Int × Int × Int) ⊕ (Int × Int × Int × Int × Int)→AExit × ASt
 | .inl d=>(.ret,⟨[(8,.ptr 0 0,false),(9,.int .i64 17,false)],[.cells [(.int .i64 0,false),(.int .i64 0,false),(.int .i64 0,false),(.int .i64 0,false)],.cells [(.int .i64 d.1,false),(.int .i64 d.2.1,false),(.int .i64 d.2.2.1,false),(.int .i64 d.2.2.2.1,false)],.cells [(.int .i64 d.2.2.2.2.1,false),(.int .i64 d.2.2.2.2.2,false)]]⟩)
 | .inr d=>(.exit 0,⟨[(2,.int .i64 a2,false),(8,.ptr 0 0,false),(10,.ptr 1 0,false),(11,sl 1 (sl 3 vel) v1.1,v1.2),(12,.int .i64 d.1,false),(22,.bool false,false)],[.cells [(.int .i64 0,false),(.int .i64 0,false),(.int .i64 0,false),(.int .i64 0,false)],.cells [(.int .i64 d.2.1,false),(.int .i64 d.2.2.1,false),(.int .i64 d.2.2.2.1,false),(.int .i64 d.2.2.2.2,false)]]⟩)
theorem b35_0 (a2:Int) (v1:(Option (List (Option (List GEl)))) × Bool) (s0:Int × Int × Int × Int × Int) (r) (h:s35_0 a2 v1 s0=some r):stepO pr c35_0 (St35_0 a2 v1) (Ex35_0 a2 v1) s0 r:=by
 unfold s35_0 at h
 rcases cond_split h with ⟨h25,h⟩ | ⟨h25,h⟩
 ·obtain ⟨v26,h27,h⟩:=obind_some h
  obtain ⟨v28,h29,h⟩:=obind_some h
  rcases cond_split h with ⟨h30,h⟩ | ⟨h30,h⟩
  ·rcases cond_split h with ⟨h31,h⟩ | ⟨h31,h⟩
   ·cases h
    exact stepO_in (st':=⟨[(2,.int .i64 a2,false),(8,.ptr 0 0,false),(10,.ptr 1 0,false),(11,sl 1 (sl 3 vel) v1.1,v1.2),(12,.int .i64 (wrapF .i64 (s0.1 + 1)),false)],[.cells [(.int .i64 0,false),(.int .i64 0,false),(.int .i64 0,false),(.int .i64 0,false)],.cells [(.int .i64 v28.1.num,false),(.int .i64 v28.1.den,false),(.int .i64 v28.1.num,false),(.int .i64 v28.1.den,false)]]++[.cells [(.int .i64 v28.1.num,false),(.int .i64 v28.1.den,false)]]⟩) (by simp only [go_sem,seval,c35_0,St35_0,h25,idxR_O h27,W113 h29,h30,h31] <;> rfl) (gc_over rfl rfl (by first | simp only [go_sem,seval,St35_0] | rfl) (by first | simp only [go_sem,seval,St35_0] | rfl))
   ·obtain ⟨v32,h33,h⟩:=obind_some h
    have wh33:callIso pr (X pr) 58 [.agg [.int .i64 v28.1.num,.int .i64 v28.1.den],.agg [.int .i64 s0.2.1,.int .i64 s0.2.2.1]]=some (.bool v32,false):=W58 200 h33
    rcases cond_split h with ⟨h34,h⟩ | ⟨h34,h⟩
    ·obtain ⟨v35,h36,h⟩:=obind_some h
     have wh36:callIso pr (X pr) 58 [.agg [.int .i64 s0.2.2.2.1,.int .i64 s0.2.2.2.2],.agg [.int .i64 v28.1.num,.int .i64 v28.1.den]]=some (.bool v35,false):=W58 200 h36
     rcases cond_split h with ⟨h37,h⟩ | ⟨h37,h⟩
     ·cases h
      exact stepO_in (st':=⟨[(2,.int .i64 a2,false),(8,.ptr 0 0,false),(10,.ptr 1 0,false),(11,sl 1 (sl 3 vel) v1.1,v1.2),(12,.int .i64 (wrapF .i64 (s0.1 + 1)),false)],[.cells [(.int .i64 0,false),(.int .i64 0,false),(.int .i64 0,false),(.int .i64 0,false)],.cells [(.int .i64 v28.1.num,false),(.int .i64 v28.1.den,false),(.int .i64 v28.1.num,false),(.int .i64 v28.1.den,false)]]++[.cells [(.int .i64 v28.1.num,false),(.int .i64 v28.1.den,false)]]⟩) (by simp only [go_sem,seval,c35_0,St35_0,h25,idxR_O h27,W113 h29,h30,h31,wh33,h34,wh36,h37] <;> rfl) (gc_over rfl rfl (by first | simp only [go_sem,seval,St35_0] | rfl) (by first | simp only [go_sem,seval,St35_0] | rfl))
     ·cases h
      exact stepO_in (st':=⟨[(2,.int .i64 a2,false),(8,.ptr 0 0,false),(10,.ptr 1 0,false),(11,sl 1 (sl 3 vel) v1.1,v1.2),(12,.int .i64 (wrapF .i64 (s0.1 + 1)),false)],[.cells [(.int .i64 0,false),(.int .i64 0,false),(.int .i64 0,false),(.int .i64 0,false)],.cells [(.int .i64 v28.1.num,false),(.int .i64 v28.1.den,false),(.int .i64 s0.2.2.2.1,false),(.int .i64 s0.2.2.2.2,false)]]++[.cells [(.int .i64 v28.1.num,false),(.int .i64 v28.1.den,false)]]⟩) (by simp only [go_sem,seval,c35_0,St35_0,h25,idxR_O h27,W113 h29,h30,h31,wh33,h34,wh36,h37] <;> rfl) (gc_over rfl rfl (by first | simp only [go_sem,seval,St35_0] | rfl) (by first | simp only [go_sem,seval,St35_0] | rfl))
    ·obtain ⟨v38,h39,h⟩:=obind_some h
     have wh39:callIso pr (X pr) 58 [.agg [.int .i64 s0.2.2.2.1,.int .i64 s0.2.2.2.2],.agg [.int .i64 v28.1.num,.int .i64 v28.1.den]]=some (.bool v38,false):=W58 200 h39
     rcases cond_split h with ⟨h40,h⟩ | ⟨h40,h⟩
     ·cases h
      exact stepO_in (st':=⟨[(2,.int .i64 a2,false),(8,.ptr 0 0,false),(10,.ptr 1 0,false),(11,sl 1 (sl 3 vel) v1.1,v1.2),(12,.int .i64 (wrapF .i64 (s0.1 + 1)),false)],[.cells [(.int .i64 0,false),(.int .i64 0,false),(.int .i64 0,false),(.int .i64 0,false)],.cells [(.int .i64 s0.2.1,false),(.int .i64 s0.2.2.1,false),(.int .i64 v28.1.num,false),(.int .i64 v28.1.den,false)]]++[.cells [(.int .i64 v28.1.num,false),(.int .i64 v28.1.den,false)]]⟩) (by simp only [go_sem,seval,c35_0,St35_0,h25,idxR_O h27,W113 h29,h30,h31,wh33,h34,wh39,h40] <;> rfl) (gc_over rfl rfl (by first | simp only [go_sem,seval,St35_0] | rfl) (by first | simp only [go_sem,seval,St35_0] | rfl))
     ·cases h
      exact stepO_in (st':=⟨[(2,.int .i64 a2,false),(8,.ptr 0 0,false),(10,.ptr 1 0,false),(11,sl 1 (sl 3 vel) v1.1,v1.2),(12,.int .i64 (wrapF .i64 (s0.1 + 1)),false)],[.cells [(.int .i64 0,false),(.int .i64 0,false),(.int .i64 0,false),(.int .i64 0,false)],.cells [(.int .i64 s0.2.1,false),(.int .i64 s0.2.2.1,false),(.int .i64 s0.2.2.2.1,false),(.int .i64 s0.2.2.2.2,false)]]++[.cells [(.int .i64 v28.1.num,false),(.int .i64 v28.1.den,false)]]⟩) (by simp only [go_sem,seval,c35_0,St35_0,h25,idxR_O h27,W113 h29,h30,h31,wh33,h34,wh39,h40] <;> rfl) (gc_over rfl rfl (by first | simp only [go_sem,seval,St35_0] | rfl) (by first | simp only [go_sem,seval,St35_0] | rfl))
  ·cases h
   exact stepO_out (by simp only [go_sem,seval,c35_0,St35_0,h25,idxR_O h27,W113 h29,h30,Ex35_0] <;> rfl)
 ·cases h
  exact stepO_out (by simp only [go_sem,seval,c35_0,St35_0,h25,Ex35_0] <;> rfl)
theorem l35_0 (a2:Int) (v1:(Option (List (Option (List GEl)))) × Bool) {s0:Int × Int × Int × Int × Int} {d} (h:itO (s35_0 a2 v1) s0=some d):X pr (.loop c35_0) (St35_0 a2 v1 s0)=some (Ex35_0 a2 v1 d):=X_itO (b35_0 a2 v1) (fun d=>by rcases d with d|d <;> (intro hh; cases hh)) h
noncomputable def f35 (a0:Option (List GPart)) (a1:Option (List Int)) (a2:Int) (a3:Bool):Option (GQuad × Int):=
 obind (f112 a0 a1 a3) fun v1=>
 obind (itO (s35_0 a2 v1) (0,0,0,0,0)) fun d41=>match d41 with
  | .inl d43=>
   some (⟨0,0,0,0⟩,17)
  | .inr d44=>
   some (⟨d44.2.1,d44.2.2.1,d44.2.2.2.1,d44.2.2.2.2⟩,0)
theorem W35 {a0:Option (List GPart)} {a1:Option (List Int)} {a2:Int} {a3:Bool} {r} (h:f35 a0 a1 a2 a3=some r):callIso pr (X pr) 35 [sl 8 vpart a0,sl 1 vint a1,.int .i64 a2,.bool a3]=some (.tup [.agg [.int .i64 r.1.a,.int .i64 r.1.b,.int .i64 r.1.c,.int .i64 r.1.d],.int .i64 r.2],false):=by
 unfold f35 at h
 obtain ⟨v1,h2,h⟩:=obind_some h
 obtain ⟨d41,h42,h⟩:=obind_some h
 rcases d41 with d43 | d44
 ·have wh42:X pr (.loop c35_0) ⟨[(2,.int .i64 a2,false),(8,.ptr 0 0,false),(10,.ptr 1 0,false),(11,sl 1 (sl 3 vel) v1.1,v1.2),(12,.int .i64 0,false)],[.cells [(.int .i64 0,false),(.int .i64 0,false),(.int .i64 0,false),(.int .i64 0,false)],.cells [(.int .i64 0,false),(.int .i64 0,false),(.int .i64 0,false),(.int .i64 0,false)]]⟩=some (.ret,⟨[(8,.ptr 0 0,false),(9,.int .i64 17,false)],[.cells [(.int .i64 0,false),(.int .i64 0,false),(.int .i64 0,false),(.int .i64 0,false)],.cells [(.int .i64 d43.1,false),(.int .i64 d43.2.1,false),(.int .i64 d43.2.2.1,false),(.int .i64 d43.2.2.2.1,false)],.cells [(.int .i64 d43.2.2.2.2.1,false),(.int .i64 d43.2.2.2.2.2,false)]]⟩):=l35_0 a2 v1 h42
  have hr:(⟨0,0,0,0⟩,17)=r:=Option.some.inj h
  subst hr
  refine iso_F rfl ?_ (fun _=>by first | rfl | simp only [go_sem,seval]) (by first | rfl | simp only [go_sem,seval])
  rw [callFn_at (show pr.fns 35=some c35 from rfl) (by simp)]
  simp only [go_sem,seval,c35,W112 h2,wh42]
  exact ⟨_,rfl⟩
 ·have wh42:X pr (.loop c35_0) ⟨[(2,.int .i64 a2,false),(8,.ptr 0 0,false),(10,.ptr 1 0,false),(11,sl 1 (sl 3 vel) v1.1,v1.2),(12,.int .i64 0,false)],[.cells [(.int .i64 0,false),(.int .i64 0,false),(.int .i64 0,false),(.int .i64 0,false)],.cells [(.int .i64 0,false),(.int .i64 0,false),(.int .i64 0,false),(.int .i64 0,false)]]⟩=some (.exit 0,⟨[(2,.int .i64 a2,false),(8,.ptr 0 0,false),(10,.ptr 1 0,false),(11,sl 1 (sl 3 vel) v1.1,v1.2),(12,.int .i64 d44.1,false),(22,.bool false,false)],[.cells [(.int .i64 0,false),(.int .i64 0,false),(.int .i64 0,false),(.int .i64 0,false)],.cells [(.int .i64 d44.2.1,false),(.int .i64 d44.2.2.1,false),(.int .i64 d44.2.2.2.1,false),(.int .i64 d44.2.2.2.2,false)]]⟩):=l35_0 a2 v1 h42
  have hr:(⟨d44.2.1,d44.2.2.1,d44.2.2.2.1,d44.2.2.2.2⟩,0)=r:=Option.some.inj h
  subst hr
  refine iso_F rfl ?_ (fun _=>by first | rfl | simp only [go_sem,seval]) (by first | rfl | simp only [go_sem,seval])
  rw [callFn_at (show pr.fns 35=some c35 from rfl) (by simp)]
  simp only [go_sem,seval,c35,W112 h2,wh42]
  exact ⟨_,rfl⟩
end Go.Z
