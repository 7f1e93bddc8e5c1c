/- Chapter 4. -/
import Derived.Test.YtnjngdcbkkonnaaGreatDoorA5
set_option linter.unusedVariables false
set_option linter.unusedSimpArgs false
set_option maxRecDepth 100000
set_option maxHeartbeats 4000000
namespace Go.Z
open Go Go.Abs
noncomputable def f36 (a0:TP) (a1:TB) (a2:Int):Option Bool:=
 qc (f17 a0) fun v1=>
 cond v1
  (cond (decide (((a1.getD []).length:Int)≤4))
   (cond (decide (a2≤2))
    (some true)
    (cond (decide (3 < a2))
     (some true)
     (some (decide (((a0.getD []).length:Int)≤2)))))
   (cond (decide (((a1.getD []).length:Int)=9))
    (cond (decide (a2≤2))
     (some true)
     (cond (decide (3 < a2))
      (some true)
      (some (decide (((a0.getD []).length:Int)≤2)))))
    (some false)))
  (some false)
theorem W36 {a0:TP} {a1:TB} {a2:Int} {r} (h:f36 a0 a1 a2=some r):qf pr (X pr) 36 [sl 8 qq a0,sl 5 j5 a1,.int .i64 a2]=some (.bool r,false):=by
 unfold f36 at h
 obtain ⟨v1,h2,h⟩:=qa h
 rcases qb h with ⟨h3,h⟩ | ⟨h3,h⟩
 ·rcases qb h with ⟨h4,h⟩ | ⟨h4,h⟩
  ·rcases qb h with ⟨h5,h⟩ | ⟨h5,h⟩
   ·obtain rfl:=Option.some.inj h
    refine qn (f:=c36) rfl rfl rfl (by first | rfl | simp only [go_sem,seval]) ?_
    simp only [go_sem,seval,c36,W17 h2,h3,h4,h5]
    exact ⟨_,rfl⟩
   rcases qb h with ⟨h6,h⟩ | ⟨h6,h⟩
   ·obtain rfl:=Option.some.inj h
    refine qn (f:=c36) rfl rfl rfl (by first | rfl | simp only [go_sem,seval]) ?_
    simp only [go_sem,seval,c36,W17 h2,h3,h4,h5,h6]
    exact ⟨_,rfl⟩
   obtain rfl:=Option.some.inj h
   refine qn (f:=c36) rfl rfl rfl (by first | rfl | simp only [go_sem,seval]) ?_
   simp only [go_sem,seval,c36,W17 h2,h3,h4,h5,h6]
   exact ⟨_,rfl⟩
  rcases qb h with ⟨h7,h⟩ | ⟨h7,h⟩
  ·rcases qb h with ⟨h8,h⟩ | ⟨h8,h⟩
   ·obtain rfl:=Option.some.inj h
    refine qn (f:=c36) rfl rfl rfl (by first | rfl | simp only [go_sem,seval]) ?_
    simp only [go_sem,seval,c36,W17 h2,h3,h4,h7,h8]
    exact ⟨_,rfl⟩
   rcases qb h with ⟨h9,h⟩ | ⟨h9,h⟩
   ·obtain rfl:=Option.some.inj h
    refine qn (f:=c36) rfl rfl rfl (by first | rfl | simp only [go_sem,seval]) ?_
    simp only [go_sem,seval,c36,W17 h2,h3,h4,h7,h8,h9]
    exact ⟨_,rfl⟩
   obtain rfl:=Option.some.inj h
   refine qn (f:=c36) rfl rfl rfl (by first | rfl | simp only [go_sem,seval]) ?_
   simp only [go_sem,seval,c36,W17 h2,h3,h4,h7,h8,h9]
   exact ⟨_,rfl⟩
  obtain rfl:=Option.some.inj h
  refine qn (f:=c36) rfl rfl rfl (by first | rfl | simp only [go_sem,seval]) ?_
  simp only [go_sem,seval,c36,W17 h2,h3,h4,h7]
  exact ⟨_,rfl⟩
 obtain rfl:=Option.some.inj h
 refine qn (f:=c36) rfl rfl rfl (by first | rfl | simp only [go_sem,seval]) ?_
 simp only [go_sem,seval,c36,W17 h2,h3]
 exact ⟨_,rfl⟩
noncomputable def quc (a0:TP) (a1:TI) (s0:Int × Int):Option ((Int × Int) ⊕ ((Int × Int))):=
 cond (decide (s0.2 < ((a1.getD []).length:Int)))
  (qc (js (a1.getD []) s0.2) fun v12=>
  qc (js (a0.getD []) v12) fun v14=>
  some (.inl (qg .i64 (s0.1 + v14.cost),qg .i64 (s0.2 + 1))))
  (some (.inr (s0.1,s0.2)))
def qm8 (a0:TP) (a1:TI) (s0:Int × Int):ASt:=⟨[(0,sl 8 qq a0,false),(5,.int .i64 s0.1,false),(8,sl 1 qm a1,false),(9,.int .i64 ((a1.getD []).length:Int),false),(10,.int .i64 s0.2,false)],[]⟩
def qq4 (a0:TP) (a1:TI) (d:(Int × Int)):jb × ASt:=(.exit 0,⟨[(0,sl 8 qq a0,false),(5,.int .i64 d.1,false),(8,sl 1 qm a1,false),(9,.int .i64 ((a1.getD []).length:Int),false),(10,.int .i64 d.2,false),(11,.bool false,false)],[]⟩)
theorem jhh (a0:TP) (a1:TI) (s0:Int × Int) (r) (h:quc a0 a1 s0=some r):jt pr qo6 (qm8 a0 a1) (qq4 a0 a1) s0 r:=by
 unfold quc at h
 rcases qb h with ⟨h11,h⟩ | ⟨h11,h⟩
 ·obtain ⟨v12,h13,h⟩:=qa h
  obtain ⟨v14,h15,h⟩:=qa h
  cases h
  exact qw (by simp only [go_sem,seval,qo6,qm8,h11,qu h13,qu h15] <;> rfl) (Nat.le_refl _)
 cases h
 exact qh (by simp only [go_sem,seval,qo6,qm8,h11,qq4] <;> rfl)
theorem jfr (a0:TP) (a1:TI) {s0:Int × Int} {d} (h:itO (quc a0 a1) s0=some d):X pr (.loop qo6) (qm8 a0 a1 s0)=some (qq4 a0 a1 d):=j9 (jhh a0 a1) (fun d hh=>by cases hh) h
noncomputable def f116 (a0:TP) (a1:TI):Option Int:=
 qc (itO (quc a0 a1) (0,0)) fun d16=>
 some d16.1
theorem jvi {a0:TP} {a1:TI} {r} (h:f116 a0 a1=some r):qf pr (X pr) 116 [sl 8 qq a0,sl 1 qm a1]=some (.int .i64 r,false):=by
 unfold f116 at h
 obtain ⟨d16,h17,h⟩:=qa h
 have wh17:=jfr a0 a1 h17
 dsimp only [qm8,qq4] at wh17
 obtain rfl:=Option.some.inj h
 refine qn (f:=c116) rfl rfl rfl (by first | rfl | simp only [go_sem,seval]) ?_
 simp only [go_sem,seval,c116,wh17]
 exact ⟨_,rfl⟩
noncomputable def qkd (a0:TP) (a1:TI) (s0:Int × Int):Option ((Int × Int) ⊕ ((Int × Int))):=
 cond (decide (s0.2 < ((a1.getD []).length:Int)))
  (qc (js (a1.getD []) s0.2) fun v12=>
  qc (js (a0.getD []) v12) fun v14=>
  some (.inl (qg .i64 (s0.1 + v14.cost),qg .i64 (s0.2 + 1))))
  (some (.inr (s0.1,s0.2)))
def qpy (a0:TP) (a1:TI) (s0:Int × Int):ASt:=⟨[(0,sl 8 qq a0,false),(1,sl 1 qm a1,false),(5,.int .i64 s0.1,false),(6,.int .i64 s0.2,false)],[]⟩
def qu3 (a0:TP) (a1:TI) (d:(Int × Int)):jb × ASt:=(.exit 0,⟨[(0,sl 8 qq a0,false),(1,sl 1 qm a1,false),(5,.int .i64 d.1,false),(6,.int .i64 d.2,false),(10,.bool false,false)],[]⟩)
theorem jqr (a0:TP) (a1:TI) (s0:Int × Int) (r) (h:qkd a0 a1 s0=some r):jt pr qt4 (qpy a0 a1) (qu3 a0 a1) s0 r:=by
 unfold qkd at h
 rcases qb h with ⟨h11,h⟩ | ⟨h11,h⟩
 ·obtain ⟨v12,h13,h⟩:=qa h
  obtain ⟨v14,h15,h⟩:=qa h
  cases h
  exact qw (by simp only [go_sem,seval,qt4,qpy,h11,qu h13,qu h15] <;> rfl) (Nat.le_refl _)
 cases h
 exact qh (by simp only [go_sem,seval,qt4,qpy,h11,qu3] <;> rfl)
theorem jod (a0:TP) (a1:TI) {s0:Int × Int} {d} (h:itO (qkd a0 a1) s0=some d):X pr (.loop qt4) (qpy a0 a1 s0)=some (qu3 a0 a1 d):=j9 (jqr a0 a1) (fun d hh=>by cases hh) h
noncomputable def f71 (a0:TP) (a1:TI):Option Int:=
 qc (itO (qkd a0 a1) (0,0)) fun d16=>
 some d16.1
theorem W71 {a0:TP} {a1:TI} {r} (h:f71 a0 a1=some r):qf pr (X pr) 71 [sl 8 qq a0,sl 1 qm a1]=some (.int .i64 r,false):=by
 unfold f71 at h
 obtain ⟨d16,h17,h⟩:=qa h
 have wh17:=jod a0 a1 h17
 dsimp only [qpy,qu3] at wh17
 obtain rfl:=Option.some.inj h
 refine qn (f:=c71) rfl rfl rfl (by first | rfl | simp only [go_sem,seval]) ?_
 simp only [go_sem,seval,c71,wh17]
 exact ⟨_,rfl⟩
theorem juz {ps:TP} {ch:TI} {c:Bool}:qf pr (X pr) 159 [sl 8 qq ps,sl 1 qm ch,.bool c]=some (.fn (.func 196) [] [.vptr (sl 1 qm ch),.vptr (sl 8 qq ps),.vptr (.bool c)],false):=by
 have this:∃ hh,jg pr (X pr) 159 [sl 8 qq ps,sl 1 qm ch,.bool c] []=some (.fn (.func 196) [] [.vptr (sl 1 qm ch),.vptr (sl 8 qq ps),.vptr (.bool c)],false,hh):=by
  rw [j8 (show pr.fns 159=some c159 from rfl) (by simp)]
  simp only [go_sem,seval,c159]
  exact ⟨_,rfl⟩
 obtain ⟨hh,this⟩:=this
 have h1:Abs.below 0 (sl 1 qm ch)=true:=by simp only [go_sem,seval]
 have h2:Abs.below 0 (sl 8 qq ps)=true:=by simp only [go_sem,seval]
 have hp:Abs.below 0 (.fn (.func 196) [] [.vptr (sl 1 qm ch),.vptr (sl 8 qq ps),.vptr (.bool c)])=true:=by
  show (true && (Abs.below 0 (sl 1 qm ch) && (Abs.below 0 (sl 8 qq ps) && (true && true))))=true
  rw [h1,h2]; rfl
 exact qch rfl this (by first | rfl | simp only [go_sem,seval]) (by first | exact hp | simp only [go_sem,seval])
theorem qf1 {b t:Nat} {h:qk} {bb:Bool} {p:TE} {o v:TTE} (hv:apO o [p]=some v):appR 1 b h (some t) (some (sl 1 (sl 3 vel) o)) (some (.list bb 1 [sl 3 vel p]))=ifR (decide (b≤4096)) (some ⟨sl 1 (sl 3 vel) v,true,some t,h⟩):=qjj (x:=p) (by omega) rfl hv
theorem qft {b:Nat} {h:qk} {bb:Bool} {p:TE} {o v:TTE} (hv:apO o [p]=some v) (hn:o.isNone=true):appR 1 b h none (some (sl 1 (sl 3 vel) o)) (some (.list bb 1 [sl 3 vel p]))=ifR (decide (b≤4096)) (some ⟨sl 1 (sl 3 vel) v,true,none,h⟩):=qek (x:=p) (by omega) rfl hn hv
theorem qe0 {b t:Nat} {h:qk} {bb:Bool} {p:TI} {o v:TTI} (hv:apO o [p]=some v):appR 1 b h (some t) (some (sl 1 (sl 1 qm) o)) (some (.list bb 1 [sl 1 qm p]))=ifR (decide (b≤4096)) (some ⟨sl 1 (sl 1 qm) v,true,some t,h⟩):=qjj (x:=p) (by omega) rfl hv
theorem qfd {b:Nat} {h:qk} {bb:Bool} {p:TI} {o v:TTI} (hv:apO o [p]=some v) (hn:o.isNone=true):appR 1 b h none (some (sl 1 (sl 1 qm) o)) (some (.list bb 1 [sl 1 qm p]))=ifR (decide (b≤4096)) (some ⟨sl 1 (sl 1 qm) v,true,none,h⟩):=qek (x:=p) (by omega) rfl hn hv
@[go_sem] theorem jku {n z:Nat} {l:TTE}:below n (sl z (sl 3 vel) l)=true:=qdf fun _=>q4u
@[go_sem] theorem jkp {n z:Nat} {l:TTI}:below n (sl z (sl 1 qm) l)=true:=qdf fun _=>qdf fun _=>rfl
noncomputable def qg2 (a0:TP) (a1:TI) (s0:Bool × TTE × Int × Bool) (v985:ql) (v987:TE × Bool) (s1:Bool × TTE × Int × Bool) (s2:Bool × TTE × Int × Bool):Option ((Bool × TTE × Int × Bool) ⊕ ((Bool × TTE × Bool × Int))):=
 cond (decide (s2.2.2.1 < ((v987.1.getD []).length:Int)))
  (qc (js (v987.1.getD []) s2.2.2.1) fun v1366=>
  cond (decide ((max (qg .i64 (v1366.a - v985.pa)) (qg .i64 (v985.pa - v1366.a)))=v985.sa))
   (cond (decide ((max (qg .i64 (v1366.b - v985.pb)) (qg .i64 (v985.pb - v1366.b)))=v985.sb))
    (qc (js (s0.2.1.getD []) s1.2.2.1) fun v1370=>
    qc (apO (some []) (v1370.getD [])) fun v1372=>
    qc (apO v1372 [v1366]) fun v1374=>
    cond s2.2.2.2
     (qc (apO s2.2.1 [v1374]) fun v1377=>
     some (.inl (s2.1,v1377,qg .i64 (s2.2.2.1 + 1),true)))
     (cond s2.2.1.isNone
      (qc (apO s2.2.1 [v1374]) fun v1380=>
      some (.inl (s2.1,v1380,qg .i64 (s2.2.2.1 + 1),true)))
      (none)))
    (cond s2.1
     (some (.inl (true,s2.2.1,qg .i64 (s2.2.2.1 + 1),s2.2.2.2)))
     (qc (js (s0.2.1.getD []) s1.2.2.1) fun v1383=>
     qc (apO (some []) (v1383.getD [])) fun v1385=>
     qc (apO v1385 [v1366]) fun v1387=>
     cond s2.2.2.2
      (qc (apO s2.2.1 [v1387]) fun v1390=>
      some (.inl (false,v1390,qg .i64 (s2.2.2.1 + 1),true)))
      (cond s2.2.1.isNone
       (qc (apO s2.2.1 [v1387]) fun v1393=>
       some (.inl (false,v1393,qg .i64 (s2.2.2.1 + 1),true)))
       (none)))))
   (cond s2.1
    (some (.inl (true,s2.2.1,qg .i64 (s2.2.2.1 + 1),s2.2.2.2)))
    (qc (js (s0.2.1.getD []) s1.2.2.1) fun v1396=>
    qc (apO (some []) (v1396.getD [])) fun v1398=>
    qc (apO v1398 [v1366]) fun v1400=>
    cond s2.2.2.2
     (qc (apO s2.2.1 [v1400]) fun v1403=>
     some (.inl (false,v1403,qg .i64 (s2.2.2.1 + 1),true)))
     (cond s2.2.1.isNone
      (qc (apO s2.2.1 [v1400]) fun v1406=>
      some (.inl (false,v1406,qg .i64 (s2.2.2.1 + 1),true)))
      (none)))))
  (some (.inr (s2.1,s2.2.1,s2.2.2.2,s2.2.2.1)))
def ye (a0:TP) (a1:TI) (s0:Bool × TTE × Int × Bool) (v985:ql) (v987:TE × Bool) (s1:Bool × TTE × Int × Bool) (s2:Bool × TTE × Int × Bool):ASt:=⟨[(0,sl 8 qq a0,false),(1,sl 1 qm a1,false),(2,.bool s2.1,false),(7,sl 1 (sl 3 vel) s0.2.1,s0.2.2.2),(8,.int .i64 s0.2.2.1,false),(9,sl 1 (sl 3 vel) s2.2.1,s2.2.2.2),(10,.ptr 0 0,false),(11,sl 3 vel v987.1,v987.2),(12,.int .i64 s1.2.2.1,false),(13,.int .i64 s2.2.2.1,false)],[.cells [(.str v985.name,false),(.str v985.kd,false),(.int .i64 v985.pa,false),(.int .i64 v985.pb,false),(.int .i64 v985.sa,false),(.int .i64 v985.sb,false),(.int .i64 v985.cost,false),(.int .i64 v985.stock,false)]]⟩
def qrn (a0:TP) (a1:TI) (s0:Bool × TTE × Int × Bool) (v985:ql) (v987:TE × Bool) (s1:Bool × TTE × Int × Bool) (d:(Bool × TTE × Bool × Int)):jb × ASt:=(.exit 4,⟨[(0,sl 8 qq a0,false),(1,sl 1 qm a1,false),(2,.bool d.1,false),(7,sl 1 (sl 3 vel) s0.2.1,s0.2.2.2),(8,.int .i64 s0.2.2.1,false),(9,sl 1 (sl 3 vel) d.2.1,d.2.2.1),(10,.ptr 0 0,false),(11,sl 3 vel v987.1,v987.2),(12,.int .i64 s1.2.2.1,false),(13,.int .i64 d.2.2.2,false),(41,.bool false,false)],[.cells [(.str v985.name,false),(.str v985.kd,false),(.int .i64 v985.pa,false),(.int .i64 v985.pb,false),(.int .i64 v985.sa,false),(.int .i64 v985.sb,false),(.int .i64 v985.cost,false),(.int .i64 v985.stock,false)]]⟩)
theorem jib (a0:TP) (a1:TI) (s0:Bool × TTE × Int × Bool) (v985:ql) (v987:TE × Bool) (s1:Bool × TTE × Int × Bool) (s2:Bool × TTE × Int × Bool) (r) (h:qg2 a0 a1 s0 v985 v987 s1 s2=some r):jt pr qcm (ye a0 a1 s0 v985 v987 s1) (qrn a0 a1 s0 v985 v987 s1) s2 r:=by
 unfold qg2 at h
 rcases qb h with ⟨h1365,h⟩ | ⟨h1365,h⟩
 ·obtain ⟨v1366,h1367,h⟩:=qa h
  rcases qb h with ⟨h1368,h⟩ | ⟨h1368,h⟩
  ·rcases qb h with ⟨h1369,h⟩ | ⟨h1369,h⟩
   ·obtain ⟨v1370,h1371,h⟩:=qa h
    obtain ⟨v1372,h1373,h⟩:=qa h
    obtain ⟨v1374,h1375,h⟩:=qa h
    rcases qb h with ⟨h1376,h⟩ | ⟨h1376,h⟩
    ·obtain ⟨v1377,h1378,h⟩:=qa h
     cases h
     exact zt (by simp only [go_sem,seval,qcm,ye,h1365,qu h1367,h1368,h1369,qu h1371,qaz h1373,qbt h1375,h1376,qf1 h1378]; exact ⟨_,rfl⟩) rfl (by first | simp only [go_sem,seval,ye] | rfl) (by first | simp only [go_sem,seval,ye] | rfl)
    rcases qb h with ⟨h1379,h⟩ | ⟨h1379,h⟩
    ·obtain ⟨v1380,h1381,h⟩:=qa h
     cases h
     exact zt (by simp only [go_sem,seval,qcm,ye,h1365,qu h1367,h1368,h1369,qu h1371,qaz h1373,qbt h1375,h1376,h1379,qft h1381 h1379]; exact ⟨_,rfl⟩) rfl (by first | simp only [go_sem,seval,ye] | rfl) (by first | simp only [go_sem,seval,ye] | rfl)
    cases h
   rcases qb h with ⟨h1382,h⟩ | ⟨h1382,h⟩
   ·cases h
    exact zt (by simp only [go_sem,seval,qcm,ye,h1365,qu h1367,h1368,h1369,h1382]; exact ⟨_,rfl⟩) rfl (by first | simp only [go_sem,seval,ye] | rfl) (by first | simp only [go_sem,seval,ye] | rfl)
   obtain ⟨v1383,h1384,h⟩:=qa h
   obtain ⟨v1385,h1386,h⟩:=qa h
   obtain ⟨v1387,h1388,h⟩:=qa h
   rcases qb h with ⟨h1389,h⟩ | ⟨h1389,h⟩
   ·obtain ⟨v1390,h1391,h⟩:=qa h
    cases h
    exact zt (by simp only [go_sem,seval,qcm,ye,h1365,qu h1367,h1368,h1369,h1382,qu h1384,qaz h1386,qbt h1388,h1389,qf1 h1391]; exact ⟨_,rfl⟩) rfl (by first | simp only [go_sem,seval,ye] | rfl) (by first | simp only [go_sem,seval,ye] | rfl)
   rcases qb h with ⟨h1392,h⟩ | ⟨h1392,h⟩
   ·obtain ⟨v1393,h1394,h⟩:=qa h
    cases h
    exact zt (by simp only [go_sem,seval,qcm,ye,h1365,qu h1367,h1368,h1369,h1382,qu h1384,qaz h1386,qbt h1388,h1389,h1392,qft h1394 h1392]; exact ⟨_,rfl⟩) rfl (by first | simp only [go_sem,seval,ye] | rfl) (by first | simp only [go_sem,seval,ye] | rfl)
   cases h
  rcases qb h with ⟨h1395,h⟩ | ⟨h1395,h⟩
  ·cases h
   exact zt (by simp only [go_sem,seval,qcm,ye,h1365,qu h1367,h1368,h1395]; exact ⟨_,rfl⟩) rfl (by first | simp only [go_sem,seval,ye] | rfl) (by first | simp only [go_sem,seval,ye] | rfl)
  obtain ⟨v1396,h1397,h⟩:=qa h
  obtain ⟨v1398,h1399,h⟩:=qa h
  obtain ⟨v1400,h1401,h⟩:=qa h
  rcases qb h with ⟨h1402,h⟩ | ⟨h1402,h⟩
  ·obtain ⟨v1403,h1404,h⟩:=qa h
   cases h
   exact zt (by simp only [go_sem,seval,qcm,ye,h1365,qu h1367,h1368,h1395,qu h1397,qaz h1399,qbt h1401,h1402,qf1 h1404]; exact ⟨_,rfl⟩) rfl (by first | simp only [go_sem,seval,ye] | rfl) (by first | simp only [go_sem,seval,ye] | rfl)
  rcases qb h with ⟨h1405,h⟩ | ⟨h1405,h⟩
  ·obtain ⟨v1406,h1407,h⟩:=qa h
   cases h
   exact zt (by simp only [go_sem,seval,qcm,ye,h1365,qu h1367,h1368,h1395,qu h1397,qaz h1399,qbt h1401,h1402,h1405,qft h1407 h1405]; exact ⟨_,rfl⟩) rfl (by first | simp only [go_sem,seval,ye] | rfl) (by first | simp only [go_sem,seval,ye] | rfl)
  cases h
 cases h
 exact qh (by simp only [go_sem,seval,qcm,ye,h1365,qrn] <;> rfl)
theorem jf0 (a0:TP) (a1:TI) (s0:Bool × TTE × Int × Bool) (v985:ql) (v987:TE × Bool) (s1:Bool × TTE × Int × Bool) {s2:Bool × TTE × Int × Bool} {d} (h:itO (qg2 a0 a1 s0 v985 v987 s1) s2=some d):X pr (.loop qcm) (ye a0 a1 s0 v985 v987 s1 s2)=some (qrn a0 a1 s0 v985 v987 s1 d):=j9 (jib a0 a1 s0 v985 v987 s1) (fun d hh=>by cases hh) h
noncomputable def qja (a0:TP) (a1:TI) (s0:Bool × TTE × Int × Bool) (v985:ql) (v987:TE × Bool) (s1:Bool × TTE × Int × Bool):Option ((Bool × TTE × Int × Bool) ⊕ ((Bool × TTE × Bool × Int))):=
 cond (decide (s1.2.2.1 < ((s0.2.1.getD []).length:Int)))
  (qc (itO (qg2 a0 a1 s0 v985 v987 s1) (s1.1,s1.2.1,0,s1.2.2.2)) fun d1408=>
  some (.inl (d1408.1,d1408.2.1,qg .i64 (s1.2.2.1 + 1),d1408.2.2.1)))
  (some (.inr (s1.1,s1.2.1,s1.2.2.2,s1.2.2.1)))
def qlu (a0:TP) (a1:TI) (s0:Bool × TTE × Int × Bool) (v985:ql) (v987:TE × Bool) (s1:Bool × TTE × Int × Bool):ASt:=⟨[(0,sl 8 qq a0,false),(1,sl 1 qm a1,false),(2,.bool s1.1,false),(7,sl 1 (sl 3 vel) s0.2.1,s0.2.2.2),(8,.int .i64 s0.2.2.1,false),(9,sl 1 (sl 3 vel) s1.2.1,s1.2.2.2),(10,.ptr 0 0,false),(11,sl 3 vel v987.1,v987.2),(12,.int .i64 s1.2.2.1,false)],[.cells [(.str v985.name,false),(.str v985.kd,false),(.int .i64 v985.pa,false),(.int .i64 v985.pb,false),(.int .i64 v985.sa,false),(.int .i64 v985.sb,false),(.int .i64 v985.cost,false),(.int .i64 v985.stock,false)]]⟩
def qrj (a0:TP) (a1:TI) (s0:Bool × TTE × Int × Bool) (v985:ql) (v987:TE × Bool) (d:(Bool × TTE × Bool × Int)):jb × ASt:=(.exit 2,⟨[(0,sl 8 qq a0,false),(1,sl 1 qm a1,false),(2,.bool d.1,false),(7,sl 1 (sl 3 vel) s0.2.1,s0.2.2.2),(8,.int .i64 s0.2.2.1,false),(9,sl 1 (sl 3 vel) d.2.1,d.2.2.1),(10,.ptr 0 0,false),(11,sl 3 vel v987.1,v987.2),(12,.int .i64 d.2.2.2,false),(35,.bool false,false)],[.cells [(.str v985.name,false),(.str v985.kd,false),(.int .i64 v985.pa,false),(.int .i64 v985.pb,false),(.int .i64 v985.sa,false),(.int .i64 v985.sb,false),(.int .i64 v985.cost,false),(.int .i64 v985.stock,false)]]⟩)
theorem jh3 (a0:TP) (a1:TI) (s0:Bool × TTE × Int × Bool) (v985:ql) (v987:TE × Bool) (s1:Bool × TTE × Int × Bool) (r) (h:qja a0 a1 s0 v985 v987 s1=some r):jt pr qp5 (qlu a0 a1 s0 v985 v987) (qrj a0 a1 s0 v985 v987) s1 r:=by
 unfold qja at h
 rcases qb h with ⟨h1278,h⟩ | ⟨h1278,h⟩
 ·obtain ⟨d1408,h1409,h⟩:=qa h
  have wh1409:=jf0 a0 a1 s0 v985 v987 s1 h1409
  dsimp only [ye,qrn] at wh1409
  cases h
  exact qw (by simp only [go_sem,seval,qp5,qlu,h1278,wh1409] <;> rfl) (Nat.le_refl _)
 cases h
 exact qh (by simp only [go_sem,seval,qp5,qlu,h1278,qrj] <;> rfl)
theorem jgw (a0:TP) (a1:TI) (s0:Bool × TTE × Int × Bool) (v985:ql) (v987:TE × Bool) {s1:Bool × TTE × Int × Bool} {d} (h:itO (qja a0 a1 s0 v985 v987) s1=some d):X pr (.loop qp5) (qlu a0 a1 s0 v985 v987 s1)=some (qrj a0 a1 s0 v985 v987 d):=j9 (jh3 a0 a1 s0 v985 v987) (fun d hh=>by cases hh) h
noncomputable def qhb (a0:TP) (a1:TI) (s0:Bool × TTE × Int × Bool):Option ((Bool × TTE × Int × Bool) ⊕ ((Bool × TTE × Bool × Int))):=
 cond (decide (s0.2.2.1 < ((a1.getD []).length:Int)))
  (qc (js (a1.getD []) s0.2.2.1) fun v983=>
  qc (js (a0.getD []) v983) fun v985=>
  qc (f104 v985) fun v987=>
  qc (itO (qja a0 a1 s0 v985 v987) (s0.1,none,0,false)) fun d1410=>
  some (.inl (d1410.1,d1410.2.1,qg .i64 (s0.2.2.1 + 1),d1410.2.2.1)))
  (some (.inr (s0.1,s0.2.1,s0.2.2.2,s0.2.2.1)))
def qiq (a0:TP) (a1:TI) (s0:Bool × TTE × Int × Bool):ASt:=⟨[(0,sl 8 qq a0,false),(1,sl 1 qm a1,false),(2,.bool s0.1,false),(7,sl 1 (sl 3 vel) s0.2.1,s0.2.2.2),(8,.int .i64 s0.2.2.1,false)],[]⟩
def qv9 (a0:TP) (a1:TI) (d:(Bool × TTE × Bool × Int)):jb × ASt:=(.exit 0,⟨[(0,sl 8 qq a0,false),(1,sl 1 qm a1,false),(2,.bool d.1,false),(7,sl 1 (sl 3 vel) d.2.1,d.2.2.1),(8,.int .i64 d.2.2.2,false),(20,.bool false,false)],[]⟩)
theorem jfg (a0:TP) (a1:TI) (s0:Bool × TTE × Int × Bool) (r) (h:qhb a0 a1 s0=some r):jt pr qm0 (qiq a0 a1) (qv9 a0 a1) s0 r:=by
 unfold qhb at h
 rcases qb h with ⟨h982,h⟩ | ⟨h982,h⟩
 ·obtain ⟨v983,h984,h⟩:=qa h
  obtain ⟨v985,h986,h⟩:=qa h
  obtain ⟨v987,h988,h⟩:=qa h
  have wh988:=jh9 h988
  obtain ⟨d1410,h1411,h⟩:=qa h
  have wh1411:=jgw a0 a1 s0 v985 v987 h1411
  dsimp only [qlu,qrj,qdx] at wh1411
  cases h
  exact zt (by simp only [go_sem,seval,qm0,qiq,h982,qu h984,qu h986,wh988,wh1411]; exact ⟨_,rfl⟩) rfl (by first | simp only [go_sem,seval,qiq] | rfl) (by first | simp only [go_sem,seval,qiq] | rfl)
 cases h
 exact qh (by simp only [go_sem,seval,qm0,qiq,h982,qv9] <;> rfl)
theorem jfn (a0:TP) (a1:TI) {s0:Bool × TTE × Int × Bool} {d} (h:itO (qhb a0 a1) s0=some d):X pr (.loop qm0) (qiq a0 a1 s0)=some (qv9 a0 a1 d):=j9 (jfg a0 a1) (fun d hh=>by cases hh) h
noncomputable def f112 (a0:TP) (a1:TI) (a2:Bool):Option (TTE × Bool):=
 qc (itO (qhb a0 a1) (a2,some [none],0,true)) fun d1412=>
 some (d1412.2.1,d1412.2.2.1)
theorem jfp {a0:TP} {a1:TI} {a2:Bool} {r} (h:f112 a0 a1 a2=some r):qf pr (X pr) 112 [sl 8 qq a0,sl 1 qm a1,.bool a2]=some (sl 1 (sl 3 vel) r.1,r.2):=by
 unfold f112 at h
 obtain ⟨d1412,h1413,h⟩:=qa h
 have wh1413:X pr (.loop qm0) ⟨[(0,sl 8 qq a0,false),(1,sl 1 qm a1,false),(2,.bool a2,false),(7,.list false 1 [.list true 0 []],true),(8,.int .i64 0,false)],[]⟩=some (.exit 0,⟨[(0,sl 8 qq a0,false),(1,sl 1 qm a1,false),(2,.bool d1412.1,false),(7,sl 1 (sl 3 vel) d1412.2.1,d1412.2.2.1),(8,.int .i64 d1412.2.2.2,false),(20,.bool false,false)],[]⟩):=jfn a0 a1 h1413
 have hr:(d1412.2.1,d1412.2.2.1)=r:=Option.some.inj h
 subst hr
 have this:∃ hh,jg pr (X pr) 112 [sl 8 qq a0,sl 1 qm a1,.bool a2] []=some (sl 1 (sl 3 vel) d1412.2.1,d1412.2.2.1,hh):=by
  rw [j8 (show pr.fns 112=some c112 from rfl) (by simp)]
  simp only [go_sem,seval,c112,wh1413]
  exact ⟨_,rfl⟩
 obtain ⟨hh,this⟩:=this
 exact zk rfl this (by first | rfl | simp only [go_sem,seval]) (by first | rfl | simp only [go_sem,seval]) (by first | rfl | simp only [go_sem,seval])
end Go.Z
