/- Chapter 4. -/
import Derived.Test.YtnjngdcbkkonnaaGreatDoorA13
import Derived.Test.YtnjngdcbkkonnaaGreatDoorA16
import Derived.Test.YtnjngdcbkkonnaaGreatDoorTK
import Derived.Test.YtnjngdcbkkonnaaGreatDoorA8
set_option linter.unusedVariables false
set_option linter.unusedSimpArgs false
set_option maxRecDepth 100000
set_option maxHeartbeats 4000000
namespace Go.Z
open Go Go.Abs
noncomputable def f114 (a0:TP) (a1:TB) (a2:Int):Option Int:=
 qc (f23 a0) fun v1=>
 qc (f81 a1) fun v3=>
 qc (f109 a2 0 3) fun v5=>
 qc (f105 (some [v1,v3,v5])) fun v7=>
 some v7
theorem jxm {a0:TP} {a1:TB} {a2:Int} {r} (h:f114 a0 a1 a2=some r):qf pr (X pr) 114 [sl 8 qq a0,sl 5 j5 a1,.int .i64 a2]=some (.int .i64 r,false):=by
 unfold f114 at h
 obtain ⟨v1,h2,h⟩:=qa h
 obtain ⟨v3,h4,h⟩:=qa h
 obtain ⟨v5,h6,h⟩:=qa h
 obtain ⟨v7,h8,h⟩:=qa h
 have wh8:qf pr (X pr) 105 [.list false 1 [.int .i64 v1,.int .i64 v3,.int .i64 v5]]=some (.int .i64 v7,false):=qs2 h8
 obtain rfl:=Option.some.inj h
 refine qn (f:=c114) rfl rfl rfl (by first | rfl | simp only [go_sem,seval]) ?_
 simp only [go_sem,seval,c114,W23 h2,W81 h4,qow h6,wh8]
 exact ⟨_,rfl⟩
theorem V79 {a0:TP} {a1:TI} {a2:TB} {r} (h:f79 a0 a1 a2=some r):qf prT (X prT) 79 [sl 8 qq a0,sl 1 qm a1,sl 5 j5 a2]=some (.tup [.agg [.int .i64 r.1.band,sl 3 vel r.1.ladder],.bool r.2],false):=atT rfl rfl (W79 h) (by first | rfl | simp only [go_sem,seval])
theorem qz4 {a0:TP} {a1:TI} {r} (h:f116 a0 a1=some r):qf prT (X prT) 116 [sl 8 qq a0,sl 1 qm a1]=some (.int .i64 r,false):=atT rfl rfl (jvi h) (by first | rfl | simp only [go_sem,seval])
theorem q31 {a0:TP} {a1:TI} {a2:TB} {r} (h:f117 a0 a1 a2=some r):qf prT (X prT) 117 [sl 8 qq a0,sl 1 qm a1,sl 5 j5 a2]=some (.tup [.agg [.int .i64 r.1.band,sl 3 vel r.1.ladder],.bool r.2],false):=atT rfl rfl (jvg h) (by first | rfl | simp only [go_sem,seval])
theorem qvf {a0:TI} {r} (h:f161 a0=some r):qf prT (X prT) 161 [sl 1 qm a0]=some (sl 1 qm r.1,r.2):=atT rfl rfl (jwa h) (by first | rfl | simp only [go_sem,seval])
theorem V71 {a0:TP} {a1:TI} {r} (h:f71 a0 a1=some r):qf prT (X prT) 71 [sl 8 qq a0,sl 1 qm a1]=some (.int .i64 r,false):=atT rfl rfl (W71 h) (by first | rfl | simp only [go_sem,seval])
theorem jat {a0:TP} {a1:TB} {a2:Int} {r} (h:f114 a0 a1 a2=some r):qf prT (X prT) 114 [sl 8 qq a0,sl 5 j5 a1,.int .i64 a2]=some (.int .i64 r,false):=atT rfl rfl (jxm h) (by first | rfl | simp only [go_sem,seval])
theorem jud {a0:TTI} {r} (h:f162 a0=some r):qf prT (X prT) 162 [sl 1 (sl 1 qm) a0,.fn (.func 163) [] []]=some (.tup [],false):=atT rfl rfl (jxc h) rfl
noncomputable def qg5 (a0:TP) (a1:Int) (s0:TTI × TTI × Int) (s1:TTI × Int × Bool) (v830:TI) (s2:TTI × Int × Bool):Option ((TTI × Int × Bool) ⊕ ((TTI × Bool × Int))):=
 cond (decide (s2.2.1 < ((a0.getD []).length:Int)))
  (qc (f161 v830) fun v887=>
  cond v887.2
   (qc (apO v887.1 [s2.2.1]) fun v890=>
   qc (f138 a0 v890) fun v892=>
   cond v892.2
    (cond s2.2.2
     (qc (apO s2.1 [v890]) fun v896=>
     some (.inl (v896,qg .i64 (s2.2.1 + 1),true)))
     (cond s2.1.isNone
      (qc (apO s2.1 [v890]) fun v899=>
      some (.inl (v899,qg .i64 (s2.2.1 + 1),true)))
      (none)))
    (some (.inl (s2.1,qg .i64 (s2.2.1 + 1),s2.2.2))))
   (cond v887.1.isNone
    (qc (apO v887.1 [s2.2.1]) fun v902=>
    qc (f138 a0 v902) fun v904=>
    cond v904.2
     (cond s2.2.2
      (qc (apO s2.1 [v902]) fun v908=>
      some (.inl (v908,qg .i64 (s2.2.1 + 1),true)))
      (cond s2.1.isNone
       (qc (apO s2.1 [v902]) fun v911=>
       some (.inl (v911,qg .i64 (s2.2.1 + 1),true)))
       (none)))
     (some (.inl (s2.1,qg .i64 (s2.2.1 + 1),s2.2.2))))
    (none)))
  (some (.inr (s2.1,s2.2.2,s2.2.1)))
def qcq (a0:TP) (a1:Int) (s0:TTI × TTI × Int) (s1:TTI × Int × Bool) (v830:TI) (s2:TTI × Int × Bool):ASt:=⟨[(0,sl 8 qq a0,false),(5,sl 1 (sl 1 qm) s0.1,true),(7,sl 1 (sl 1 qm) s2.1,s2.2.2),(9,sl 1 qm v830,false),(16,.int .i64 a1,false),(17,.int .i64 s0.2.2,false),(19,sl 1 (sl 1 qm) s0.2.1,false),(20,.int .i64 ((s0.2.1.getD []).length:Int),false),(21,.int .i64 s1.2.1,false),(26,.int .i64 ((a0.getD []).length:Int),false),(27,.int .i64 s2.2.1,false)],[]⟩
def qql (a0:TP) (a1:Int) (s0:TTI × TTI × Int) (s1:TTI × Int × Bool) (v830:TI) (d:(TTI × Bool × Int)):jb × ASt:=(.exit 4,⟨[(0,sl 8 qq a0,false),(5,sl 1 (sl 1 qm) s0.1,true),(7,sl 1 (sl 1 qm) d.1,d.2.1),(9,sl 1 qm v830,false),(16,.int .i64 a1,false),(17,.int .i64 s0.2.2,false),(19,sl 1 (sl 1 qm) s0.2.1,false),(20,.int .i64 ((s0.2.1.getD []).length:Int),false),(21,.int .i64 s1.2.1,false),(26,.int .i64 ((a0.getD []).length:Int),false),(27,.int .i64 d.2.2,false),(28,.bool false,false)],[]⟩)
theorem jgz (a0:TP) (a1:Int) (s0:TTI × TTI × Int) (s1:TTI × Int × Bool) (v830:TI) (s2:TTI × Int × Bool) (r) (h:qg5 a0 a1 s0 s1 v830 s2=some r):jt prT qd4 (qcq a0 a1 s0 s1 v830) (qql a0 a1 s0 s1 v830) s2 r:=by
 unfold qg5 at h
 rcases qb h with ⟨h886,h⟩ | ⟨h886,h⟩
 ·obtain ⟨v887,h888,h⟩:=qa h
  rcases qb h with ⟨h889,h⟩ | ⟨h889,h⟩
  ·obtain ⟨v890,h891,h⟩:=qa h
   obtain ⟨v892,h893,h⟩:=qa h
   rcases qb h with ⟨h894,h⟩ | ⟨h894,h⟩
   ·rcases qb h with ⟨h895,h⟩ | ⟨h895,h⟩
    ·obtain ⟨v896,h897,h⟩:=qa h
     cases h
     exact qw (by simp only [go_sem,seval,qd4,qcq,h886,qvf h888,h889,qbr h891,qwe h893,h894,h895,qe0 h897] <;> rfl) (Nat.le_refl _)
    rcases qb h with ⟨h898,h⟩ | ⟨h898,h⟩
    ·obtain ⟨v899,h900,h⟩:=qa h
     cases h
     exact qw (by simp only [go_sem,seval,qd4,qcq,h886,qvf h888,h889,qbr h891,qwe h893,h894,h895,h898,qfd h900 h898] <;> rfl) (Nat.le_refl _)
    cases h
   cases h
   exact qw (by simp only [go_sem,seval,qd4,qcq,h886,qvf h888,h889,qbr h891,qwe h893,h894] <;> rfl) (Nat.le_refl _)
  rcases qb h with ⟨h901,h⟩ | ⟨h901,h⟩
  ·obtain ⟨v902,h903,h⟩:=qa h
   obtain ⟨v904,h905,h⟩:=qa h
   rcases qb h with ⟨h906,h⟩ | ⟨h906,h⟩
   ·rcases qb h with ⟨h907,h⟩ | ⟨h907,h⟩
    ·obtain ⟨v908,h909,h⟩:=qa h
     cases h
     exact qw (by simp only [go_sem,seval,qd4,qcq,h886,qvf h888,h889,h901,qe1 h903 h901,qwe h905,h906,h907,qe0 h909] <;> rfl) (Nat.le_refl _)
    rcases qb h with ⟨h910,h⟩ | ⟨h910,h⟩
    ·obtain ⟨v911,h912,h⟩:=qa h
     cases h
     exact qw (by simp only [go_sem,seval,qd4,qcq,h886,qvf h888,h889,h901,qe1 h903 h901,qwe h905,h906,h907,h910,qfd h912 h910] <;> rfl) (Nat.le_refl _)
    cases h
   cases h
   exact qw (by simp only [go_sem,seval,qd4,qcq,h886,qvf h888,h889,h901,qe1 h903 h901,qwe h905,h906] <;> rfl) (Nat.le_refl _)
  cases h
 cases h
 exact qh (by simp only [go_sem,seval,qd4,qcq,h886,qql] <;> rfl)
theorem jjj (a0:TP) (a1:Int) (s0:TTI × TTI × Int) (s1:TTI × Int × Bool) (v830:TI) {s2:TTI × Int × Bool} {d} (h:itO (qg5 a0 a1 s0 s1 v830) s2=some d):X prT (.loop qd4) (qcq a0 a1 s0 s1 v830 s2)=some (qql a0 a1 s0 s1 v830 d):=j9 (jgz a0 a1 s0 s1 v830) (fun d hh=>by cases hh) h
noncomputable def qjz (a0:TP) (a1:Int) (s0:TTI × TTI × Int) (s1:TTI × Int × Bool):Option ((TTI × Int × Bool) ⊕ ((TTI × Bool × Int))):=
 cond (decide (s1.2.1 < ((s0.2.1.getD []).length:Int)))
  (qc (js (s0.2.1.getD []) s1.2.1) fun v830=>
  qc (itO (qg5 a0 a1 s0 s1 v830) (s1.1,0,s1.2.2)) fun d913=>
  some (.inl (d913.1,qg .i64 (s1.2.1 + 1),d913.2.1)))
  (some (.inr (s1.1,s1.2.2,s1.2.1)))
def qmo (a0:TP) (a1:Int) (s0:TTI × TTI × Int) (s1:TTI × Int × Bool):ASt:=⟨[(0,sl 8 qq a0,false),(5,sl 1 (sl 1 qm) s0.1,true),(7,sl 1 (sl 1 qm) s1.1,s1.2.2),(16,.int .i64 a1,false),(17,.int .i64 s0.2.2,false),(19,sl 1 (sl 1 qm) s0.2.1,false),(20,.int .i64 ((s0.2.1.getD []).length:Int),false),(21,.int .i64 s1.2.1,false)],[]⟩
def qqm (a0:TP) (a1:Int) (s0:TTI × TTI × Int) (d:(TTI × Bool × Int)):jb × ASt:=(.exit 2,⟨[(0,sl 8 qq a0,false),(5,sl 1 (sl 1 qm) s0.1,true),(7,sl 1 (sl 1 qm) d.1,d.2.1),(16,.int .i64 a1,false),(17,.int .i64 s0.2.2,false),(19,sl 1 (sl 1 qm) s0.2.1,false),(20,.int .i64 ((s0.2.1.getD []).length:Int),false),(21,.int .i64 d.2.2,false),(22,.bool false,false)],[]⟩)
theorem jg9 (a0:TP) (a1:Int) (s0:TTI × TTI × Int) (s1:TTI × Int × Bool) (r) (h:qjz a0 a1 s0 s1=some r):jt prT qo4 (qmo a0 a1 s0) (qqm a0 a1 s0) s1 r:=by
 unfold qjz at h
 rcases qb h with ⟨h829,h⟩ | ⟨h829,h⟩
 ·obtain ⟨v830,h831,h⟩:=qa h
  obtain ⟨d913,h914,h⟩:=qa h
  have wh914:=jjj a0 a1 s0 s1 v830 h914
  dsimp only [qcq,qql] at wh914
  cases h
  exact qw (by simp only [go_sem,seval,qo4,qmo,h829,qu h831,wh914] <;> rfl) (Nat.le_refl _)
 cases h
 exact qh (by simp only [go_sem,seval,qo4,qmo,h829,qqm] <;> rfl)
theorem jgs (a0:TP) (a1:Int) (s0:TTI × TTI × Int) {s1:TTI × Int × Bool} {d} (h:itO (qjz a0 a1 s0) s1=some d):X prT (.loop qo4) (qmo a0 a1 s0 s1)=some (qqm a0 a1 s0 d):=j9 (jg9 a0 a1 s0) (fun d hh=>by cases hh) h
noncomputable def qez (a0:TP) (a1:Int) (s0:TTI × TTI × Int):Option ((TTI × TTI × Int) ⊕ ((TTI × TTI × Int))):=
 cond (decide (s0.2.2 < a1))
  (qc (itO (qjz a0 a1 s0) (none,0,false)) fun d915=>
  qc (apO s0.1 (d915.1.getD [])) fun v917=>
  some (.inl (v917,d915.1,qg .i64 (s0.2.2 + 1))))
  (some (.inr (s0.1,s0.2.1,s0.2.2)))
def qq7 (a0:TP) (a1:Int) (s0:TTI × TTI × Int):ASt:=⟨[(0,sl 8 qq a0,false),(5,sl 1 (sl 1 qm) s0.1,true),(6,sl 1 (sl 1 qm) s0.2.1,false),(16,.int .i64 a1,false),(17,.int .i64 s0.2.2,false)],[]⟩
def qv2 (a0:TP) (a1:Int) (d:(TTI × TTI × Int)):jb × ASt:=(.exit 0,⟨[(0,sl 8 qq a0,false),(5,sl 1 (sl 1 qm) d.1,true),(6,sl 1 (sl 1 qm) d.2.1,false),(16,.int .i64 a1,false),(17,.int .i64 d.2.2,false),(18,.bool false,false)],[]⟩)
theorem jgp (a0:TP) (a1:Int) (s0:TTI × TTI × Int) (r) (h:qez a0 a1 s0=some r):jt prT qmd (qq7 a0 a1) (qv2 a0 a1) s0 r:=by
 unfold qez at h
 rcases qb h with ⟨h668,h⟩ | ⟨h668,h⟩
 ·obtain ⟨d915,h916,h⟩:=qa h
  have wh916:=jgs a0 a1 s0 h916
  dsimp only [qmo,qqm,qdx] at wh916
  obtain ⟨v917,h918,h⟩:=qa h
  cases h
  exact qw (by simp only [go_sem,seval,qmd,qq7,h668,wh916,qn6 h918] <;> rfl) (Nat.le_refl _)
 cases h
 exact qh (by simp only [go_sem,seval,qmd,qq7,h668,qv2] <;> rfl)
theorem jh0 (a0:TP) (a1:Int) {s0:TTI × TTI × Int} {d} (h:itO (qez a0 a1) s0=some d):X prT (.loop qmd) (qq7 a0 a1 s0)=some (qv2 a0 a1 d):=j9 (jgp a0 a1) (fun d hh=>by cases hh) h
noncomputable def f115 (a0:TP) (a1:Int):Option TTI:=
 qc (itO (qez a0 a1) (some [none],some [none],0)) fun d919=>
 qc (f162 d919.1) fun v921=>
 some d919.1
theorem jgx {a0:TP} {a1:Int} {r} (h:f115 a0 a1=some r):qf prT (X prT) 115 [sl 8 qq a0,.int .i64 a1]=some (sl 1 (sl 1 qm) r,true):=by
 unfold f115 at h
 obtain ⟨d919,h920,h⟩:=qa h
 have wh920:X prT (.loop qmd) ⟨[(0,sl 8 qq a0,false),(5,.list false 1 [.list true 0 []],true),(6,.list false 1 [.list true 0 []],false),(16,.int .i64 a1,false),(17,.int .i64 0,false)],[]⟩=some (.exit 0,⟨[(0,sl 8 qq a0,false),(5,sl 1 (sl 1 qm) d919.1,true),(6,sl 1 (sl 1 qm) d919.2.1,false),(16,.int .i64 a1,false),(17,.int .i64 d919.2.2,false),(18,.bool false,false)],[]⟩):=jh0 a0 a1 h920
 obtain ⟨v921,h922,h⟩:=qa h
 have wh922:qf prT (X prT) 162 [sl 1 (sl 1 qm) d919.1,.fn (.func 163) [] []]=some (.tup [],false):=jud h922
 have hr:d919.1=r:=Option.some.inj h
 subst hr
 have this:∃ hh,jg prT (X prT) 115 [sl 8 qq a0,.int .i64 a1] []=some (sl 1 (sl 1 qm) d919.1,true,hh):=by
  rw [j8 (show prT.fns 115=some c115 from rfl) (by simp)]
  simp only [go_sem,seval,c115,wh920,wh922]
  exact ⟨_,rfl⟩
 obtain ⟨hh,this⟩:=this
 exact zk rfl this (by first | rfl | simp only [go_sem,seval]) (by first | rfl | simp only [go_sem,seval]) (by first | rfl | simp only [go_sem,seval])
noncomputable def qgz (a0:TP) (a1:Int) (s0:TTI × TTI × Int × Bool) (s1:TTI × Int × Bool) (s2:TTI × Int × Bool):Option ((TTI × Int × Bool) ⊕ ((TTI × Bool × Int))):=
 cond (decide (s2.2.1 < ((a0.getD []).length:Int)))
  (qc (js (s0.2.1.getD []) s1.2.1) fun v501=>
  qc (apO (some []) (v501.getD [])) fun v503=>
  qc (apO v503 [s2.2.1]) fun v505=>
  qc (f72 a0 v505) fun v507=>
  cond v507.2
   (cond s2.2.2
    (qc (apO s2.1 [v505]) fun v511=>
    some (.inl (v511,qg .i64 (s2.2.1 + 1),true)))
    (cond s2.1.isNone
     (qc (apO s2.1 [v505]) fun v514=>
     some (.inl (v514,qg .i64 (s2.2.1 + 1),true)))
     (none)))
   (some (.inl (s2.1,qg .i64 (s2.2.1 + 1),s2.2.2))))
  (some (.inr (s2.1,s2.2.2,s2.2.1)))
def qgb (a0:TP) (a1:Int) (s0:TTI × TTI × Int × Bool) (s1:TTI × Int × Bool) (s2:TTI × Int × Bool):ASt:=⟨[(0,sl 8 qq a0,false),(1,.int .i64 a1,false),(5,sl 1 (sl 1 qm) s0.1,true),(6,sl 1 (sl 1 qm) s0.2.1,s0.2.2.2),(7,.int .i64 s0.2.2.1,false),(8,sl 1 (sl 1 qm) s2.1,s2.2.2),(9,.int .i64 s1.2.1,false),(10,.int .i64 s2.2.1,false)],[]⟩
def qqq (a0:TP) (a1:Int) (s0:TTI × TTI × Int × Bool) (s1:TTI × Int × Bool) (d:(TTI × Bool × Int)):jb × ASt:=(.exit 4,⟨[(0,sl 8 qq a0,false),(1,.int .i64 a1,false),(5,sl 1 (sl 1 qm) s0.1,true),(6,sl 1 (sl 1 qm) s0.2.1,s0.2.2.2),(7,.int .i64 s0.2.2.1,false),(8,sl 1 (sl 1 qm) d.1,d.2.1),(9,.int .i64 s1.2.1,false),(10,.int .i64 d.2.2,false),(30,.bool false,false)],[]⟩)
theorem jhv (a0:TP) (a1:Int) (s0:TTI × TTI × Int × Bool) (s1:TTI × Int × Bool) (s2:TTI × Int × Bool) (r) (h:qgz a0 a1 s0 s1 s2=some r):jt prT qjm (qgb a0 a1 s0 s1) (qqq a0 a1 s0 s1) s2 r:=by
 unfold qgz at h
 rcases qb h with ⟨h500,h⟩ | ⟨h500,h⟩
 ·obtain ⟨v501,h502,h⟩:=qa h
  obtain ⟨v503,h504,h⟩:=qa h
  obtain ⟨v505,h506,h⟩:=qa h
  obtain ⟨v507,h508,h⟩:=qa h
  rcases qb h with ⟨h509,h⟩ | ⟨h509,h⟩
  ·rcases qb h with ⟨h510,h⟩ | ⟨h510,h⟩
   ·obtain ⟨v511,h512,h⟩:=qa h
    cases h
    exact qw (by simp only [go_sem,seval,qjm,qgb,h500,qu h502,qaz h504,qbr h506,W72 h508,h509,h510,qe0 h512] <;> rfl) (Nat.le_refl _)
   rcases qb h with ⟨h513,h⟩ | ⟨h513,h⟩
   ·obtain ⟨v514,h515,h⟩:=qa h
    cases h
    exact qw (by simp only [go_sem,seval,qjm,qgb,h500,qu h502,qaz h504,qbr h506,W72 h508,h509,h510,h513,qfd h515 h513] <;> rfl) (Nat.le_refl _)
   cases h
  cases h
  exact qw (by simp only [go_sem,seval,qjm,qgb,h500,qu h502,qaz h504,qbr h506,W72 h508,h509] <;> rfl) (Nat.le_refl _)
 cases h
 exact qh (by simp only [go_sem,seval,qjm,qgb,h500,qqq] <;> rfl)
theorem jhp (a0:TP) (a1:Int) (s0:TTI × TTI × Int × Bool) (s1:TTI × Int × Bool) {s2:TTI × Int × Bool} {d} (h:itO (qgz a0 a1 s0 s1) s2=some d):X prT (.loop qjm) (qgb a0 a1 s0 s1 s2)=some (qqq a0 a1 s0 s1 d):=j9 (jhv a0 a1 s0 s1) (fun d hh=>by cases hh) h
noncomputable def qi4 (a0:TP) (a1:Int) (s0:TTI × TTI × Int × Bool) (s1:TTI × Int × Bool):Option ((TTI × Int × Bool) ⊕ ((TTI × Bool × Int))):=
 cond (decide (s1.2.1 < ((s0.2.1.getD []).length:Int)))
  (qc (itO (qgz a0 a1 s0 s1) (s1.1,0,s1.2.2)) fun d516=>
  some (.inl (d516.1,qg .i64 (s1.2.1 + 1),d516.2.1)))
  (some (.inr (s1.1,s1.2.2,s1.2.1)))
def qln (a0:TP) (a1:Int) (s0:TTI × TTI × Int × Bool) (s1:TTI × Int × Bool):ASt:=⟨[(0,sl 8 qq a0,false),(1,.int .i64 a1,false),(5,sl 1 (sl 1 qm) s0.1,true),(6,sl 1 (sl 1 qm) s0.2.1,s0.2.2.2),(7,.int .i64 s0.2.2.1,false),(8,sl 1 (sl 1 qm) s1.1,s1.2.2),(9,.int .i64 s1.2.1,false)],[]⟩
def qrb (a0:TP) (a1:Int) (s0:TTI × TTI × Int × Bool) (d:(TTI × Bool × Int)):jb × ASt:=(.exit 2,⟨[(0,sl 8 qq a0,false),(1,.int .i64 a1,false),(5,sl 1 (sl 1 qm) s0.1,true),(6,sl 1 (sl 1 qm) s0.2.1,s0.2.2.2),(7,.int .i64 s0.2.2.1,false),(8,sl 1 (sl 1 qm) d.1,d.2.1),(9,.int .i64 d.2.2,false),(24,.bool false,false)],[]⟩)
theorem jgo (a0:TP) (a1:Int) (s0:TTI × TTI × Int × Bool) (s1:TTI × Int × Bool) (r) (h:qi4 a0 a1 s0 s1=some r):jt prT qpn (qln a0 a1 s0) (qrb a0 a1 s0) s1 r:=by
 unfold qi4 at h
 rcases qb h with ⟨h467,h⟩ | ⟨h467,h⟩
 ·obtain ⟨d516,h517,h⟩:=qa h
  have wh517:=jhp a0 a1 s0 s1 h517
  dsimp only [qgb,qqq] at wh517
  cases h
  exact qw (by simp only [go_sem,seval,qpn,qln,h467,wh517] <;> rfl) (Nat.le_refl _)
 cases h
 exact qh (by simp only [go_sem,seval,qpn,qln,h467,qrb] <;> rfl)
theorem jh2 (a0:TP) (a1:Int) (s0:TTI × TTI × Int × Bool) {s1:TTI × Int × Bool} {d} (h:itO (qi4 a0 a1 s0) s1=some d):X prT (.loop qpn) (qln a0 a1 s0 s1)=some (qrb a0 a1 s0 d):=j9 (jgo a0 a1 s0) (fun d hh=>by cases hh) h
noncomputable def qfh (a0:TP) (a1:Int) (s0:TTI × TTI × Int × Bool):Option ((TTI × TTI × Int × Bool) ⊕ ((TTI × TTI × Bool × Int))):=
 cond (decide (s0.2.2.1≤a1))
  (qc (itO (qi4 a0 a1 s0) (none,0,false)) fun d518=>
  qc (apO s0.1 (d518.1.getD [])) fun v520=>
  some (.inl (v520,d518.1,qg .i64 (s0.2.2.1 + 1),false)))
  (some (.inr (s0.1,s0.2.1,s0.2.2.2,s0.2.2.1)))
def qrd (a0:TP) (a1:Int) (s0:TTI × TTI × Int × Bool):ASt:=⟨[(0,sl 8 qq a0,false),(1,.int .i64 a1,false),(5,sl 1 (sl 1 qm) s0.1,true),(6,sl 1 (sl 1 qm) s0.2.1,s0.2.2.2),(7,.int .i64 s0.2.2.1,false)],[]⟩
def qwb (a0:TP) (a1:Int) (d:(TTI × TTI × Bool × Int)):jb × ASt:=(.exit 0,⟨[(0,sl 8 qq a0,false),(1,.int .i64 a1,false),(5,sl 1 (sl 1 qm) d.1,true),(6,sl 1 (sl 1 qm) d.2.1,d.2.2.1),(7,.int .i64 d.2.2.2,false),(18,.bool false,false)],[]⟩)
theorem jgd (a0:TP) (a1:Int) (s0:TTI × TTI × Int × Bool) (r) (h:qfh a0 a1 s0=some r):jt prT qlt (qrd a0 a1) (qwb a0 a1) s0 r:=by
 unfold qfh at h
 rcases qb h with ⟨h370,h⟩ | ⟨h370,h⟩
 ·obtain ⟨d518,h519,h⟩:=qa h
  have wh519:=jh2 a0 a1 s0 h519
  dsimp only [qln,qrb,qdx] at wh519
  obtain ⟨v520,h521,h⟩:=qa h
  cases h
  exact qw (by simp only [go_sem,seval,qlt,qrd,h370,wh519,qn6 h521] <;> rfl) (Nat.le_refl _)
 cases h
 exact qh (by simp only [go_sem,seval,qlt,qrd,h370,qwb] <;> rfl)
theorem jhr (a0:TP) (a1:Int) {s0:TTI × TTI × Int × Bool} {d} (h:itO (qfh a0 a1) s0=some d):X prT (.loop qlt) (qrd a0 a1 s0)=some (qwb a0 a1 d):=j9 (jgd a0 a1) (fun d hh=>by cases hh) h
noncomputable def f120 (a0:TP) (a1:Int):Option TTI:=
 qc (itO (qfh a0 a1) (some [none],some [none],1,true)) fun d522=>
 some d522.1
theorem jyf {a0:TP} {a1:Int} {r} (h:f120 a0 a1=some r):qf prT (X prT) 120 [sl 8 qq a0,.int .i64 a1]=some (sl 1 (sl 1 qm) r,true):=by
 unfold f120 at h
 obtain ⟨d522,h523,h⟩:=qa h
 have wh523:X prT (.loop qlt) ⟨[(0,sl 8 qq a0,false),(1,.int .i64 a1,false),(5,.list false 1 [.list true 0 []],true),(6,.list false 1 [.list true 0 []],true),(7,.int .i64 1,false)],[]⟩=some (.exit 0,⟨[(0,sl 8 qq a0,false),(1,.int .i64 a1,false),(5,sl 1 (sl 1 qm) d522.1,true),(6,sl 1 (sl 1 qm) d522.2.1,d522.2.2.1),(7,.int .i64 d522.2.2.2,false),(18,.bool false,false)],[]⟩):=jhr a0 a1 h523
 have hr:d522.1=r:=Option.some.inj h
 subst hr
 have this:∃ hh,jg prT (X prT) 120 [sl 8 qq a0,.int .i64 a1] []=some (sl 1 (sl 1 qm) d522.1,true,hh):=by
  rw [j8 (show prT.fns 120=some c120 from rfl) (by simp)]
  simp only [go_sem,seval,c120,wh523]
  exact ⟨_,rfl⟩
 obtain ⟨hh,this⟩:=this
 exact zk rfl this (by first | rfl | simp only [go_sem,seval]) (by first | rfl | simp only [go_sem,seval]) (by first | rfl | simp only [go_sem,seval])
noncomputable def qn2 (a0:TP) (a1:TB) (v4:TTI) (s0:TI × Int × Bool × Int):Option ((TI × Int × Bool × Int) ⊕ ((TI × Int × Bool × Int))):=
 cond (decide (s0.2.2.2 < ((v4.getD []).length:Int)))
  (qc (js (v4.getD []) s0.2.2.2) fun v28=>
  qc (f116 a0 v28) fun v30=>
  cond s0.2.2.1
   (cond (decide (s0.2.1≤v30))
    (some (.inl (s0.1,s0.2.1,true,qg .i64 (s0.2.2.2 + 1))))
    (qc (f117 a0 v28 a1) fun v34=>
    cond v34.2
     (some (.inl (s0.1,s0.2.1,true,qg .i64 (s0.2.2.2 + 1))))
     (some (.inl (v28,v30,true,qg .i64 (s0.2.2.2 + 1))))))
   (qc (f117 a0 v28 a1) fun v37=>
   cond v37.2
    (some (.inl (s0.1,s0.2.1,false,qg .i64 (s0.2.2.2 + 1))))
    (some (.inl (v28,v30,true,qg .i64 (s0.2.2.2 + 1))))))
  (some (.inr (s0.1,s0.2.1,s0.2.2.1,s0.2.2.2)))
def qav (a0:TP) (a1:TB) (v4:TTI) (s0:TI × Int × Bool × Int):ASt:=⟨[(0,sl 8 qq a0,false),(1,sl 5 j5 a1,false),(10,sl 1 qm s0.1,false),(11,.int .i64 s0.2.1,false),(12,.bool s0.2.2.1,false),(27,sl 1 (sl 1 qm) v4,true),(28,.int .i64 ((v4.getD []).length:Int),false),(29,.int .i64 s0.2.2.2,false)],[]⟩
def qu1 (a0:TP) (a1:TB) (v4:TTI) (d:(TI × Int × Bool × Int)):jb × ASt:=(.exit 0,⟨[(0,sl 8 qq a0,false),(1,sl 5 j5 a1,false),(10,sl 1 qm d.1,false),(11,.int .i64 d.2.1,false),(12,.bool d.2.2.1,false),(27,sl 1 (sl 1 qm) v4,true),(28,.int .i64 ((v4.getD []).length:Int),false),(29,.int .i64 d.2.2.2,false),(30,.bool false,false)],[]⟩)
theorem jrr (a0:TP) (a1:TB) (v4:TTI) (s0:TI × Int × Bool × Int) (r) (h:qn2 a0 a1 v4 s0=some r):jt prT qht (qav a0 a1 v4) (qu1 a0 a1 v4) s0 r:=by
 unfold qn2 at h
 rcases qb h with ⟨h27,h⟩ | ⟨h27,h⟩
 ·obtain ⟨v28,h29,h⟩:=qa h
  obtain ⟨v30,h31,h⟩:=qa h
  rcases qb h with ⟨h32,h⟩ | ⟨h32,h⟩
  ·rcases qb h with ⟨h33,h⟩ | ⟨h33,h⟩
   ·cases h
    exact qw (by simp only [go_sem,seval,qht,qav,h27,qu h29,qz4 h31,h32,h33] <;> rfl) (Nat.le_refl _)
   obtain ⟨v34,h35,h⟩:=qa h
   rcases qb h with ⟨h36,h⟩ | ⟨h36,h⟩
   ·cases h
    exact zt (by simp only [go_sem,seval,qht,qav,h27,qu h29,qz4 h31,h32,h33,q31 h35,h36]; exact ⟨_,rfl⟩) rfl (by first | simp only [go_sem,seval,qav] | rfl) (by first | simp only [go_sem,seval,qav] | rfl)
   cases h
   exact zt (by simp only [go_sem,seval,qht,qav,h27,qu h29,qz4 h31,h32,h33,q31 h35,h36]; exact ⟨_,rfl⟩) rfl (by first | simp only [go_sem,seval,qav] | rfl) (by first | simp only [go_sem,seval,qav] | rfl)
  obtain ⟨v37,h38,h⟩:=qa h
  rcases qb h with ⟨h39,h⟩ | ⟨h39,h⟩
  ·cases h
   exact zt (by simp only [go_sem,seval,qht,qav,h27,qu h29,qz4 h31,h32,q31 h38,h39]; exact ⟨_,rfl⟩) rfl (by first | simp only [go_sem,seval,qav] | rfl) (by first | simp only [go_sem,seval,qav] | rfl)
  cases h
  exact zt (by simp only [go_sem,seval,qht,qav,h27,qu h29,qz4 h31,h32,q31 h38,h39]; exact ⟨_,rfl⟩) rfl (by first | simp only [go_sem,seval,qav] | rfl) (by first | simp only [go_sem,seval,qav] | rfl)
 cases h
 exact qh (by simp only [go_sem,seval,qht,qav,h27,qu1] <;> rfl)
theorem jmn (a0:TP) (a1:TB) (v4:TTI) {s0:TI × Int × Bool × Int} {d} (h:itO (qn2 a0 a1 v4) s0=some d):X prT (.loop qht) (qav a0 a1 v4 s0)=some (qu1 a0 a1 v4 d):=j9 (jrr a0 a1 v4) (fun d hh=>by cases hh) h
noncomputable def f37 (a0:TP) (a1:TB) (a2:Int):Option (TI × Int × Int):=
 qc (f114 a0 a1 a2) fun v1=>
 cond (decide (v1=0))
  (qc (f115 a0 a2) fun v4=>
  qc (itO (qn2 a0 a1 v4) (none,0,false,0)) fun d40=>
  cond d40.2.2.1
   (some (d40.1,d40.2.1,0))
   (some (none,0,24)))
  (some (none,0,v1))
theorem W37 {a0:TP} {a1:TB} {a2:Int} {r} (h:f37 a0 a1 a2=some r):qf prT (X prT) 37 [sl 8 qq a0,sl 5 j5 a1,.int .i64 a2]=some (.tup [sl 1 qm r.1,.int .i64 r.2.1,.int .i64 r.2.2],false):=by
 unfold f37 at h
 obtain ⟨v1,h2,h⟩:=qa h
 rcases qb h with ⟨h3,h⟩ | ⟨h3,h⟩
 ·obtain ⟨v4,h5,h⟩:=qa h
  obtain ⟨d40,h41,h⟩:=qa h
  have wh41:=jmn a0 a1 v4 h41
  dsimp only [qav,qu1,qdx] at wh41
  rcases qb h with ⟨h42,h⟩ | ⟨h42,h⟩
  ·obtain rfl:=Option.some.inj h
   refine qn (f:=c37) rfl rfl rfl (by first | rfl | simp only [go_sem,seval]) ?_
   simp only [go_sem,seval,c37,jat h2,h3,jgx h5,wh41,h42]
   exact ⟨_,rfl⟩
  obtain rfl:=Option.some.inj h
  refine qn (f:=c37) rfl rfl rfl (by first | rfl | simp only [go_sem,seval]) ?_
  simp only [go_sem,seval,c37,jat h2,h3,jgx h5,wh41,h42]
  exact ⟨_,rfl⟩
 obtain rfl:=Option.some.inj h
 refine qn (f:=c37) rfl rfl rfl (by first | rfl | simp only [go_sem,seval]) ?_
 simp only [go_sem,seval,c37,jat h2,h3]
 exact ⟨_,rfl⟩
noncomputable def qnr (a0:TP) (a1:TB) (v1:TTI) (s0:TI × Int × Bool × Int):Option ((TI × Int × Bool × Int) ⊕ ((TI × Int × Bool × Int))):=
 cond (decide (s0.2.2.2 < ((v1.getD []).length:Int)))
  (qc (js (v1.getD []) s0.2.2.2) fun v22=>
  qc (f79 a0 v22 a1) fun v24=>
  cond v24.2
   (some (.inl (s0.1,s0.2.1,s0.2.2.1,qg .i64 (s0.2.2.2 + 1))))
   (qc (f71 a0 v22) fun v27=>
   cond s0.2.2.1
    (cond (decide (v27 < s0.2.1))
     (some (.inl (v22,v27,true,qg .i64 (s0.2.2.2 + 1))))
     (some (.inl (s0.1,s0.2.1,true,qg .i64 (s0.2.2.2 + 1)))))
    (some (.inl (v22,v27,true,qg .i64 (s0.2.2.2 + 1))))))
  (some (.inr (s0.1,s0.2.1,s0.2.2.1,s0.2.2.2)))
def qba (a0:TP) (a1:TB) (v1:TTI) (s0:TI × Int × Bool × Int):ASt:=⟨[(0,sl 8 qq a0,false),(1,sl 5 j5 a1,false),(9,sl 1 qm s0.1,false),(10,.int .i64 s0.2.1,false),(11,.bool s0.2.2.1,false),(12,sl 1 (sl 1 qm) v1,true),(13,.int .i64 s0.2.2.2,false)],[]⟩
def qtm (a0:TP) (a1:TB) (v1:TTI) (d:(TI × Int × Bool × Int)):jb × ASt:=(.exit 0,⟨[(0,sl 8 qq a0,false),(1,sl 5 j5 a1,false),(9,sl 1 qm d.1,false),(10,.int .i64 d.2.1,false),(11,.bool d.2.2.1,false),(12,sl 1 (sl 1 qm) v1,true),(13,.int .i64 d.2.2.2,false),(23,.bool false,false)],[]⟩)
theorem jq5 (a0:TP) (a1:TB) (v1:TTI) (s0:TI × Int × Bool × Int) (r) (h:qnr a0 a1 v1 s0=some r):jt prT qko (qba a0 a1 v1) (qtm a0 a1 v1) s0 r:=by
 unfold qnr at h
 rcases qb h with ⟨h21,h⟩ | ⟨h21,h⟩
 ·obtain ⟨v22,h23,h⟩:=qa h
  obtain ⟨v24,h25,h⟩:=qa h
  rcases qb h with ⟨h26,h⟩ | ⟨h26,h⟩
  ·cases h
   exact zt (by simp only [go_sem,seval,qko,qba,h21,qu h23,V79 h25,h26]; exact ⟨_,rfl⟩) rfl (by first | simp only [go_sem,seval,qba] | rfl) (by first | simp only [go_sem,seval,qba] | rfl)
  obtain ⟨v27,h28,h⟩:=qa h
  rcases qb h with ⟨h29,h⟩ | ⟨h29,h⟩
  ·rcases qb h with ⟨h30,h⟩ | ⟨h30,h⟩
   ·cases h
    exact zt (by simp only [go_sem,seval,qko,qba,h21,qu h23,V79 h25,h26,V71 h28,h29,h30]; exact ⟨_,rfl⟩) rfl (by first | simp only [go_sem,seval,qba] | rfl) (by first | simp only [go_sem,seval,qba] | rfl)
   cases h
   exact zt (by simp only [go_sem,seval,qko,qba,h21,qu h23,V79 h25,h26,V71 h28,h29,h30]; exact ⟨_,rfl⟩) rfl (by first | simp only [go_sem,seval,qba] | rfl) (by first | simp only [go_sem,seval,qba] | rfl)
  cases h
  exact zt (by simp only [go_sem,seval,qko,qba,h21,qu h23,V79 h25,h26,V71 h28,h29]; exact ⟨_,rfl⟩) rfl (by first | simp only [go_sem,seval,qba] | rfl) (by first | simp only [go_sem,seval,qba] | rfl)
 cases h
 exact qh (by simp only [go_sem,seval,qko,qba,h21,qtm] <;> rfl)
theorem jo5 (a0:TP) (a1:TB) (v1:TTI) {s0:TI × Int × Bool × Int} {d} (h:itO (qnr a0 a1 v1) s0=some d):X prT (.loop qko) (qba a0 a1 v1 s0)=some (qtm a0 a1 v1 d):=j9 (jq5 a0 a1 v1) (fun d hh=>by cases hh) h
noncomputable def f41 (a0:TP) (a1:TB) (a2:Int):Option (TI × Int × Bool):=
 qc (f120 a0 a2) fun v1=>
 qc (itO (qnr a0 a1 v1) (none,0,false,0)) fun d31=>
 some (d31.1,d31.2.1,d31.2.2.1)
theorem W41 {a0:TP} {a1:TB} {a2:Int} {r} (h:f41 a0 a1 a2=some r):qf prT (X prT) 41 [sl 8 qq a0,sl 5 j5 a1,.int .i64 a2]=some (.tup [sl 1 qm r.1,.int .i64 r.2.1,.bool r.2.2],false):=by
 unfold f41 at h
 obtain ⟨v1,h2,h⟩:=qa h
 obtain ⟨d31,h32,h⟩:=qa h
 have wh32:=jo5 a0 a1 v1 h32
 dsimp only [qba,qtm,qdx] at wh32
 obtain rfl:=Option.some.inj h
 refine qn (f:=c41) rfl rfl rfl (by first | rfl | simp only [go_sem,seval]) ?_
 simp only [go_sem,seval,c41,jyf h2,wh32]
 exact ⟨_,rfl⟩
end Go.Z
