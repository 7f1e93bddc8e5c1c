/-
  TopConeLine: pairs and sums: functions that mirror the runs, and the runs (printed by walk.py).
-/
import Derived.Test.YtlonjmhacojkjaaGreatDoorR1
import Derived.Test.YtlonjmhacojkjaaGreatDoorL5
import Derived.Test.YtlonjmhacojkjaaGreatDoorG0m
import Derived.Test.YtlonjmhacojkjaaGreatDoorC1
set_option linter.unusedVariables false
set_option linter.unusedSimpArgs false
set_option maxRecDepth 100000
set_option maxHeartbeats 4000000
namespace Go.Z
open Go Go.Abs
noncomputable def f21 (a0:Int):Option (GMask × Int):=
 obind (E56p a0) fun v1=>
 some (⟨v1.1,v1.2.1⟩,v1.2.2)
theorem W21 {a0:Int} {r} (h:f21 a0=some r):callIso pr (X pr) 21 [.int .i64 a0]=some (.tup [.agg [sl 1 vint r.1.least,sl 1 vint r.1.most],.int .i64 r.2],false):=by
 unfold f21 at h
 obtain ⟨v1,h2,h⟩:=obind_some h
 have wh2:callIso pr (X pr) 56 [.int .i64 a0]=some (.tup [sl 1 vint v1.1,sl 1 vint v1.2.1,.int .i64 v1.2.2],false):=WE56p h2
 have hr:(⟨v1.1,v1.2.1⟩,v1.2.2)=r:=Option.some.inj h
 subst hr
 have this:∃ hh,callFn pr (X pr) 21 [.int .i64 a0] []=some (.tup [.agg [sl 1 vint v1.1,sl 1 vint v1.2.1],.int .i64 v1.2.2],false,hh):=by
  rw [callFn_at (show pr.fns 21=some c21 from rfl) (by simp)]
  simp only [go_sem,seval,c21,wh2]
  exact ⟨_,rfl⟩
 obtain ⟨hh,this⟩:=this
 exact callIso_of rfl this (by first | rfl | (simp only [go_sem,seval] <;> rfl)) (by first | rfl | simp only [go_sem,seval])
noncomputable def s27_1 (a0:Option (List Int)) (a1:Option (List Int)) (a2:Int) (v1:GMask × Int) (s0:(Option (List Int)) × Int × Bool) (s1:Int × Int):Option ((Int × Int) ⊕ ((Int × Int))):=
 cond (decide (s1.2 < a2))
  (obind (idxO (v1.1.least.getD []) s1.2) fun v103=>
  obind (idxO (a0.getD []) (wrapF .i64 (s1.2 + s0.2.1))) fun v105=>
  obind (idxO (v1.1.most.getD []) s1.2) fun v107=>
  obind (idxO (a1.getD []) (wrapF .i64 (s1.2 + s0.2.1))) fun v109=>
  some (.inl (wrapF .i64 (s1.1 + (wrapF .i64 ((wrapF .i64 (v103 * v105)) + (wrapF .i64 (v107 * v109))))),wrapF .i64 (s1.2 + 1))))
  (some (.inr (s1.1,s1.2)))
def St27_1 (a0:Option (List Int)) (a1:Option (List Int)) (a2:Int) (v1:GMask × Int) (s0:(Option (List Int)) × Int × Bool) (s1:Int × Int):ASt:=⟨[(0,sl 1 vint a0,false),(1,sl 1 vint a1,false),(2,.int .i64 a2,false),(7,.ptr 0 0,false),(9,.ptr 1 0,false),(13,sl 1 vint s0.1,s0.2.2),(14,.int .i64 s0.2.1,false),(15,.int .i64 s1.1,false),(66,.int .i64 (wrapF .i64 ((wrapF .i64 (((a0.getD []).length:Int) - a2)) + 1)),false),(67,.int .i64 s0.2.1,false),(70,.int .i64 a2,false),(71,.int .i64 s1.2,false)],[.cells [(.list true 0 [],false),(.list true 0 [],false)],.cells [(sl 1 vint v1.1.least,false),(sl 1 vint v1.1.most,false)]]⟩
def Ex27_1 (a0:Option (List Int)) (a1:Option (List Int)) (a2:Int) (v1:GMask × Int) (s0:(Option (List Int)) × Int × Bool) (d:(Int × Int)):AExit × ASt:=(.exit 2,⟨[(0,sl 1 vint a0,false),(1,sl 1 vint a1,false),(2,.int .i64 a2,false),(7,.ptr 0 0,false),(9,.ptr 1 0,false),(13,sl 1 vint s0.1,s0.2.2),(14,.int .i64 s0.2.1,false),(15,.int .i64 d.1,false),(66,.int .i64 (wrapF .i64 ((wrapF .i64 (((a0.getD []).length:Int) - a2)) + 1)),false),(67,.int .i64 s0.2.1,false),(70,.int .i64 a2,false),(71,.int .i64 d.2,false),(72,.bool false,false)],[.cells [(.list true 0 [],false),(.list true 0 [],false)],.cells [(sl 1 vint v1.1.least,false),(sl 1 vint v1.1.most,false)]]⟩)
theorem b27_1 (a0:Option (List Int)) (a1:Option (List Int)) (a2:Int) (v1:GMask × Int) (s0:(Option (List Int)) × Int × Bool) (s1:Int × Int) (r) (h:s27_1 a0 a1 a2 v1 s0 s1=some r):stepO pr c27_1 (St27_1 a0 a1 a2 v1 s0) (Ex27_1 a0 a1 a2 v1 s0) s1 r:=by
 unfold s27_1 at h
 rcases cond_split h with ⟨h102,h⟩ | ⟨h102,h⟩
 ·obtain ⟨v103,h104,h⟩:=obind_some h
  obtain ⟨v105,h106,h⟩:=obind_some h
  obtain ⟨v107,h108,h⟩:=obind_some h
  obtain ⟨v109,h110,h⟩:=obind_some h
  cases h
  exact stepO_in (st':=⟨[(0,sl 1 vint a0,false),(1,sl 1 vint a1,false),(2,.int .i64 a2,false),(7,.ptr 0 0,false),(9,.ptr 1 0,false),(13,sl 1 vint s0.1,s0.2.2),(14,.int .i64 s0.2.1,false),(15,.int .i64 (wrapF .i64 (s1.1 + (wrapF .i64 ((wrapF .i64 (v103 * v105)) + (wrapF .i64 (v107 * v109)))))),false),(66,.int .i64 (wrapF .i64 ((wrapF .i64 (((a0.getD []).length:Int) - a2)) + 1)),false),(67,.int .i64 s0.2.1,false),(70,.int .i64 a2,false),(71,.int .i64 (wrapF .i64 (s1.2 + 1)),false)],[.cells [(.list true 0 [],false),(.list true 0 [],false)],.cells [(sl 1 vint v1.1.least,false),(sl 1 vint v1.1.most,false)]]⟩) (by simp only [go_sem,seval,c27_1,St27_1,h102,idxR_O h104,idxR_O h106,idxR_O h108,idxR_O h110] <;> rfl) (gc_same (Nat.le_refl _))
 ·cases h
  exact stepO_out (by simp only [go_sem,seval,c27_1,St27_1,h102,Ex27_1] <;> rfl)
theorem l27_1 (a0:Option (List Int)) (a1:Option (List Int)) (a2:Int) (v1:GMask × Int) (s0:(Option (List Int)) × Int × Bool) {s1:Int × Int} {d} (h:itO (s27_1 a0 a1 a2 v1 s0) s1=some d):X pr (.loop c27_1) (St27_1 a0 a1 a2 v1 s0 s1)=some (Ex27_1 a0 a1 a2 v1 s0 d):=X_itO (b27_1 a0 a1 a2 v1 s0) (fun d hh=>by cases hh) h
noncomputable def s27_0 (a0:Option (List Int)) (a1:Option (List Int)) (a2:Int) (v1:GMask × Int) (s0:(Option (List Int)) × Int × Bool):Option (((Option (List Int)) × Int × Bool) ⊕ (((Option (List Int)) × Bool × Int))):=
 cond (decide (s0.2.1 < (wrapF .i64 ((wrapF .i64 (((a0.getD []).length:Int) - a2)) + 1))))
  (obind (itO (s27_1 a0 a1 a2 v1 s0) (0,0)) fun d111=>
  cond s0.2.2
   (obind (apO s0.1 [d111.1]) fun v114=>
   some (.inl (v114,wrapF .i64 (s0.2.1 + 1),true)))
   (cond s0.1.isNone
    (obind (apO s0.1 [d111.1]) fun v117=>
    some (.inl (v117,wrapF .i64 (s0.2.1 + 1),true)))
    (none)))
  (some (.inr (s0.1,s0.2.2,s0.2.1)))
def St27_0 (a0:Option (List Int)) (a1:Option (List Int)) (a2:Int) (v1:GMask × Int) (s0:(Option (List Int)) × Int × Bool):ASt:=⟨[(0,sl 1 vint a0,false),(1,sl 1 vint a1,false),(2,.int .i64 a2,false),(7,.ptr 0 0,false),(9,.ptr 1 0,false),(13,sl 1 vint s0.1,s0.2.2),(66,.int .i64 (wrapF .i64 ((wrapF .i64 (((a0.getD []).length:Int) - a2)) + 1)),false),(67,.int .i64 s0.2.1,false)],[.cells [(.list true 0 [],false),(.list true 0 [],false)],.cells [(sl 1 vint v1.1.least,false),(sl 1 vint v1.1.most,false)]]⟩
def Ex27_0 (a0:Option (List Int)) (a1:Option (List Int)) (a2:Int) (v1:GMask × Int) (d:((Option (List Int)) × Bool × Int)):AExit × ASt:=(.exit 0,⟨[(0,sl 1 vint a0,false),(1,sl 1 vint a1,false),(2,.int .i64 a2,false),(7,.ptr 0 0,false),(9,.ptr 1 0,false),(13,sl 1 vint d.1,d.2.1),(66,.int .i64 (wrapF .i64 ((wrapF .i64 (((a0.getD []).length:Int) - a2)) + 1)),false),(67,.int .i64 d.2.2,false),(68,.bool false,false)],[.cells [(.list true 0 [],false),(.list true 0 [],false)],.cells [(sl 1 vint v1.1.least,false),(sl 1 vint v1.1.most,false)]]⟩)
theorem b27_0 (a0:Option (List Int)) (a1:Option (List Int)) (a2:Int) (v1:GMask × Int) (s0:(Option (List Int)) × Int × Bool) (r) (h:s27_0 a0 a1 a2 v1 s0=some r):stepO pr c27_0 (St27_0 a0 a1 a2 v1) (Ex27_0 a0 a1 a2 v1) s0 r:=by
 unfold s27_0 at h
 rcases cond_split h with ⟨h83,h⟩ | ⟨h83,h⟩
 ·obtain ⟨d111,h112,h⟩:=obind_some h
  have wh112:X pr (.loop c27_1) ⟨[(0,sl 1 vint a0,false),(1,sl 1 vint a1,false),(2,.int .i64 a2,false),(7,.ptr 0 0,false),(9,.ptr 1 0,false),(13,sl 1 vint s0.1,s0.2.2),(14,.int .i64 s0.2.1,false),(15,.int .i64 0,false),(66,.int .i64 (wrapF .i64 ((wrapF .i64 (((a0.getD []).length:Int) - a2)) + 1)),false),(67,.int .i64 s0.2.1,false),(70,.int .i64 a2,false),(71,.int .i64 0,false)],[.cells [(.list true 0 [],false),(.list true 0 [],false)],.cells [(sl 1 vint v1.1.least,false),(sl 1 vint v1.1.most,false)]]⟩=some (.exit 2,⟨[(0,sl 1 vint a0,false),(1,sl 1 vint a1,false),(2,.int .i64 a2,false),(7,.ptr 0 0,false),(9,.ptr 1 0,false),(13,sl 1 vint s0.1,s0.2.2),(14,.int .i64 s0.2.1,false),(15,.int .i64 d111.1,false),(66,.int .i64 (wrapF .i64 ((wrapF .i64 (((a0.getD []).length:Int) - a2)) + 1)),false),(67,.int .i64 s0.2.1,false),(70,.int .i64 a2,false),(71,.int .i64 d111.2,false),(72,.bool false,false)],[.cells [(.list true 0 [],false),(.list true 0 [],false)],.cells [(sl 1 vint v1.1.least,false),(sl 1 vint v1.1.most,false)]]⟩):=l27_1 a0 a1 a2 v1 s0 h112
  rcases cond_split h with ⟨h113,h⟩ | ⟨h113,h⟩
  ·try simp only [h113] at wh112
   obtain ⟨v114,h115,h⟩:=obind_some h
   cases h
   exact stepO_in (st':=⟨[(0,sl 1 vint a0,false),(1,sl 1 vint a1,false),(2,.int .i64 a2,false),(7,.ptr 0 0,false),(9,.ptr 1 0,false),(13,sl 1 vint v114,true),(66,.int .i64 (wrapF .i64 ((wrapF .i64 (((a0.getD []).length:Int) - a2)) + 1)),false),(67,.int .i64 (wrapF .i64 (s0.2.1 + 1)),false)],[.cells [(.list true 0 [],false),(.list true 0 [],false)],.cells [(sl 1 vint v1.1.least,false),(sl 1 vint v1.1.most,false)]]⟩) (by simp only [go_sem,seval,c27_0,St27_0,h83,wh112,h113,app_vint_O h115] <;> rfl) (gc_same (Nat.le_refl _))
  ·try simp only [h113] at wh112
   rcases cond_split h with ⟨h116,h⟩ | ⟨h116,h⟩
   ·try simp only [h116] at wh112
    obtain ⟨v117,h118,h⟩:=obind_some h
    cases h
    exact stepO_in (st':=⟨[(0,sl 1 vint a0,false),(1,sl 1 vint a1,false),(2,.int .i64 a2,false),(7,.ptr 0 0,false),(9,.ptr 1 0,false),(13,sl 1 vint v117,true),(66,.int .i64 (wrapF .i64 ((wrapF .i64 (((a0.getD []).length:Int) - a2)) + 1)),false),(67,.int .i64 (wrapF .i64 (s0.2.1 + 1)),false)],[.cells [(.list true 0 [],false),(.list true 0 [],false)],.cells [(sl 1 vint v1.1.least,false),(sl 1 vint v1.1.most,false)]]⟩) (by simp only [go_sem,seval,c27_0,St27_0,h83,wh112,h113,h116,app_vint_N h118 h116] <;> rfl) (gc_same (Nat.le_refl _))
   ·try simp only [h116] at wh112
    cases h
 ·cases h
  exact stepO_out (by simp only [go_sem,seval,c27_0,St27_0,h83,Ex27_0] <;> rfl)
theorem l27_0 (a0:Option (List Int)) (a1:Option (List Int)) (a2:Int) (v1:GMask × Int) {s0:(Option (List Int)) × Int × Bool} {d} (h:itO (s27_0 a0 a1 a2 v1) s0=some d):X pr (.loop c27_0) (St27_0 a0 a1 a2 v1 s0)=some (Ex27_0 a0 a1 a2 v1 d):=X_itO (b27_0 a0 a1 a2 v1) (fun d hh=>by cases hh) h
noncomputable def f27 (a0:Option (List Int)) (a1:Option (List Int)) (a2:Int):Option ((Option (List Int)) × GMask × Int):=
 obind (f21 a2) fun v1=>
 cond (decide (((a0.getD []).length:Int)=((a1.getD []).length:Int)))
  (cond (decide (0 < ((a0.getD []).length:Int)))
   (obind (f61 a0) fun v5=>
   obind (f61 a1) fun v7=>
   obind (f57 (decide (((a0.getD []).length:Int) < a2)) 2) fun v9=>
   obind (f57 (decide ((wrapF .i64 ((wrapF .i64 (a2 + 256)) - 1)) < ((a0.getD []).length:Int))) 5) fun v11=>
   obind (f22 (some [v5,v7,v1.2,v9,v11])) fun v13=>
   cond (decide (v13=0))
    (cond (decide (((a0.getD []).length:Int)=0))
     (some (none,v1.1,0))
     (obind (itO (s27_0 a0 a1 a2 v1) (none,0,false)) fun d119=>
     some (d119.1,v1.1,0)))
    (some (none,v1.1,v13)))
   none)
  none
theorem W27 {a0:Option (List Int)} {a1:Option (List Int)} {a2:Int} {r} (h:f27 a0 a1 a2=some r):callIso pr (X pr) 27 [sl 1 vint a0,sl 1 vint a1,.int .i64 a2]=some (.tup [sl 1 vint r.1,.agg [sl 1 vint r.2.1.least,sl 1 vint r.2.1.most],.int .i64 r.2.2],false):=by
 unfold f27 at h
 obtain ⟨v1,h2,h⟩:=obind_some h
 have wh2:callIso pr (X pr) 21 [.int .i64 a2]=some (.tup [.agg [sl 1 vint v1.1.least,sl 1 vint v1.1.most],.int .i64 v1.2],false):=W21 h2
 rcases cond_split h with ⟨h3,h⟩ | ⟨h3,h⟩
 ·rcases cond_split h with ⟨h4,h⟩ | ⟨h4,h⟩
  ·obtain ⟨v5,h6,h⟩:=obind_some h
   have wh6:callIso pr (X pr) 61 [sl 1 vint a0]=some (.int .i64 v5,false):=W61 h6
   obtain ⟨v7,h8,h⟩:=obind_some h
   have wh8:callIso pr (X pr) 61 [sl 1 vint a1]=some (.int .i64 v7,false):=W61 h8
   obtain ⟨v9,h10,h⟩:=obind_some h
   have wh10:callIso pr (X pr) 57 [.bool (decide (((a0.getD []).length:Int) < a2)),.int .i64 2]=some (.int .i64 v9,false):=W57 h10
   obtain ⟨v11,h12,h⟩:=obind_some h
   have wh12:callIso pr (X pr) 57 [.bool (decide ((wrapF .i64 ((wrapF .i64 (a2 + 256)) - 1)) < ((a0.getD []).length:Int))),.int .i64 5]=some (.int .i64 v11,false):=W57 h12
   obtain ⟨v13,h14,h⟩:=obind_some h
   have wh14:callIso pr (X pr) 22 [.list false 1 [.int .i64 v5,.int .i64 v7,.int .i64 v1.2,.int .i64 v9,.int .i64 v11]]=some (.int .i64 v13,false):=W22 h14
   rcases cond_split h with ⟨h15,h⟩ | ⟨h15,h⟩
   ·rcases cond_split h with ⟨h16,h⟩ | ⟨h16,h⟩
    ·have hr:(none,v1.1,0)=r:=Option.some.inj h
     subst hr
     have this:∃ hh,callFn pr (X pr) 27 [sl 1 vint a0,sl 1 vint a1,.int .i64 a2] []=some (.tup [.list true 0 [],.agg [sl 1 vint v1.1.least,sl 1 vint v1.1.most],.int .i64 0],false,hh):=by
      rw [callFn_at (show pr.fns 27=some c27 from rfl) (by simp)]
      simp only [go_sem,seval,c27,wh2,h3,h4,wh6,wh8,wh10,wh12,wh14,h15,h16]
      exact ⟨_,rfl⟩
     obtain ⟨hh,this⟩:=this
     exact callIso_of rfl this (by first | rfl | (simp only [go_sem,seval] <;> rfl)) (by first | rfl | simp only [go_sem,seval])
    ·obtain ⟨d119,h120,h⟩:=obind_some h
     have wh120:X pr (.loop c27_0) ⟨[(0,sl 1 vint a0,false),(1,sl 1 vint a1,false),(2,.int .i64 a2,false),(7,.ptr 0 0,false),(9,.ptr 1 0,false),(13,.list true 0 [],false),(66,.int .i64 (wrapF .i64 ((wrapF .i64 (((a0.getD []).length:Int) - a2)) + 1)),false),(67,.int .i64 0,false)],[.cells [(.list true 0 [],false),(.list true 0 [],false)],.cells [(sl 1 vint v1.1.least,false),(sl 1 vint v1.1.most,false)]]⟩=some (.exit 0,⟨[(0,sl 1 vint a0,false),(1,sl 1 vint a1,false),(2,.int .i64 a2,false),(7,.ptr 0 0,false),(9,.ptr 1 0,false),(13,sl 1 vint d119.1,d119.2.1),(66,.int .i64 (wrapF .i64 ((wrapF .i64 (((a0.getD []).length:Int) - a2)) + 1)),false),(67,.int .i64 d119.2.2,false),(68,.bool false,false)],[.cells [(.list true 0 [],false),(.list true 0 [],false)],.cells [(sl 1 vint v1.1.least,false),(sl 1 vint v1.1.most,false)]]⟩):=l27_0 a0 a1 a2 v1 h120
     have hr:(d119.1,v1.1,0)=r:=Option.some.inj h
     subst hr
     have this:∃ hh,callFn pr (X pr) 27 [sl 1 vint a0,sl 1 vint a1,.int .i64 a2] []=some (.tup [sl 1 vint d119.1,.agg [sl 1 vint v1.1.least,sl 1 vint v1.1.most],.int .i64 0],false,hh):=by
      rw [callFn_at (show pr.fns 27=some c27 from rfl) (by simp)]
      simp only [go_sem,seval,c27,wh2,h3,h4,wh6,wh8,wh10,wh12,wh14,h15,h16,wh120]
      exact ⟨_,rfl⟩
     obtain ⟨hh,this⟩:=this
     exact callIso_of rfl this (by first | rfl | (simp only [go_sem,seval] <;> rfl)) (by first | rfl | simp only [go_sem,seval])
   ·have hr:(none,v1.1,v13)=r:=Option.some.inj h
    subst hr
    have this:∃ hh,callFn pr (X pr) 27 [sl 1 vint a0,sl 1 vint a1,.int .i64 a2] []=some (.tup [.list true 0 [],.agg [sl 1 vint v1.1.least,sl 1 vint v1.1.most],.int .i64 v13],false,hh):=by
     rw [callFn_at (show pr.fns 27=some c27 from rfl) (by simp)]
     simp only [go_sem,seval,c27,wh2,h3,h4,wh6,wh8,wh10,wh12,wh14,h15]
     exact ⟨_,rfl⟩
    obtain ⟨hh,this⟩:=this
    exact callIso_of rfl this (by first | rfl | (simp only [go_sem,seval] <;> rfl)) (by first | rfl | simp only [go_sem,seval])
  ·cases h
 ·cases h
noncomputable def f29 (a0:Int) (c0_0:Int) (c1_0:Option (List Int)) (c2_0:Int) (c3_0:Option (List Int)) (c3_1:Option (List Int)):Option Int:=
 obind (f30 a0 (wrapF .i64 (2 * c0_0))) fun v1=>
 some v1
theorem W29 {a0:Int} {c0_0:Int} {c1_0:Option (List Int)} {c2_0:Int} {c3_0:Option (List Int)} {c3_1:Option (List Int)} {r} (h:f29 a0 c0_0 c1_0 c2_0 c3_0 c3_1=some r):callFn pr (X pr) 29 [.int .i64 a0,.ptr 0 0] [.cells [(.int .i64 c0_0,false)],.cells [(sl 1 vint c1_0,false)],.cells [(.int .i64 c2_0,false)],.cells [(sl 1 vint c3_0,false),(sl 1 vint c3_1,false)]]=some (.int .i64 r,false,[.cells [(.int .i64 c0_0,false)],.cells [(sl 1 vint c1_0,false)],.cells [(.int .i64 c2_0,false)],.cells [(sl 1 vint c3_0,false),(sl 1 vint c3_1,false)]]):=by
 unfold f29 at h
 obtain ⟨v1,h2,h⟩:=obind_some h
 have wh2:callIso pr (X pr) 30 [.int .i64 a0,.int .i64 (wrapF .i64 (2 * c0_0))]=some (.int .i64 v1,false):=W30 h2
 have hr:v1=r:=Option.some.inj h
 subst hr
 rw [callFn_at (show pr.fns 29=some c29 from rfl) (by simp)]
 simp only [go_sem,seval,c29,wh2] <;> rfl
noncomputable def s28_0 (a0:Option (List Int)) (c0_0:Int) (c1_0:Option (List Int)) (c2_0:Int) (c3_0:Option (List Int)) (c3_1:Option (List Int)) (s0:(Option (List Int)) × Int × Bool):Option (((Option (List Int)) × Int × Bool) ⊕ (((Option (List Int)) × Bool × Int))):=
 cond (decide (s0.2.1 < ((a0.getD []).length:Int)))
  (obind (idxO (a0.getD []) s0.2.1) fun v18=>
  obind (f29 v18 c0_0 c1_0 c2_0 c3_0 c3_1) fun v20=>
  cond s0.2.2
   (obind (apO s0.1 [v20]) fun v23=>
   some (.inl (v23,wrapF .i64 (s0.2.1 + 1),true)))
   (cond s0.1.isNone
    (obind (apO s0.1 [v20]) fun v26=>
    some (.inl (v26,wrapF .i64 (s0.2.1 + 1),true)))
    (none)))
  (some (.inr (s0.1,s0.2.2,s0.2.1)))
def St28_0 (a0:Option (List Int)) (c0_0:Int) (c1_0:Option (List Int)) (c2_0:Int) (c3_0:Option (List Int)) (c3_1:Option (List Int)) (s0:(Option (List Int)) × Int × Bool):ASt:=⟨[(1,.fn (.func 29) [] [.ptr 0 0],false),(5,sl 1 vint s0.1,s0.2.2),(8,sl 1 vint a0,false),(9,.int .i64 ((a0.getD []).length:Int),false),(10,.int .i64 s0.2.1,false)],[.cells [(.int .i64 c0_0,false)],.cells [(sl 1 vint c1_0,false)],.cells [(.int .i64 c2_0,false)],.cells [(sl 1 vint c3_0,false),(sl 1 vint c3_1,false)]]⟩
def Ex28_0 (a0:Option (List Int)) (c0_0:Int) (c1_0:Option (List Int)) (c2_0:Int) (c3_0:Option (List Int)) (c3_1:Option (List Int)) (d:((Option (List Int)) × Bool × Int)):AExit × ASt:=(.exit 0,⟨[(1,.fn (.func 29) [] [.ptr 0 0],false),(5,sl 1 vint d.1,d.2.1),(8,sl 1 vint a0,false),(9,.int .i64 ((a0.getD []).length:Int),false),(10,.int .i64 d.2.2,false),(11,.bool false,false)],[.cells [(.int .i64 c0_0,false)],.cells [(sl 1 vint c1_0,false)],.cells [(.int .i64 c2_0,false)],.cells [(sl 1 vint c3_0,false),(sl 1 vint c3_1,false)]]⟩)
theorem b28_0 (a0:Option (List Int)) (c0_0:Int) (c1_0:Option (List Int)) (c2_0:Int) (c3_0:Option (List Int)) (c3_1:Option (List Int)) (s0:(Option (List Int)) × Int × Bool) (r) (h:s28_0 a0 c0_0 c1_0 c2_0 c3_0 c3_1 s0=some r):stepO pr c28_0 (St28_0 a0 c0_0 c1_0 c2_0 c3_0 c3_1) (Ex28_0 a0 c0_0 c1_0 c2_0 c3_0 c3_1) s0 r:=by
 unfold s28_0 at h
 rcases cond_split h with ⟨h17,h⟩ | ⟨h17,h⟩
 ·obtain ⟨v18,h19,h⟩:=obind_some h
  obtain ⟨v20,h21,h⟩:=obind_some h
  have wh21:callFn pr (X pr) 29 [.int .i64 v18,.ptr 0 0] [.cells [(.int .i64 c0_0,false)],.cells [(sl 1 vint c1_0,false)],.cells [(.int .i64 c2_0,false)],.cells [(sl 1 vint c3_0,false),(sl 1 vint c3_1,false)]]=some (.int .i64 v20,false,[.cells [(.int .i64 c0_0,false)],.cells [(sl 1 vint c1_0,false)],.cells [(.int .i64 c2_0,false)],.cells [(sl 1 vint c3_0,false),(sl 1 vint c3_1,false)]]):=W29 h21
  rcases cond_split h with ⟨h22,h⟩ | ⟨h22,h⟩
  ·obtain ⟨v23,h24,h⟩:=obind_some h
   cases h
   exact stepO_in (st':=⟨[(1,.fn (.func 29) [] [.ptr 0 0],false),(5,sl 1 vint v23,true),(8,sl 1 vint a0,false),(9,.int .i64 ((a0.getD []).length:Int),false),(10,.int .i64 (wrapF .i64 (s0.2.1 + 1)),false)],[.cells [(.int .i64 c0_0,false)],.cells [(sl 1 vint c1_0,false)],.cells [(.int .i64 c2_0,false)],.cells [(sl 1 vint c3_0,false),(sl 1 vint c3_1,false)]]⟩) (by simp only [go_sem,seval,c28_0,St28_0,h17,idxR_O h19,wh21,h22,app_vint_O h24] <;> rfl) (gc_same (Nat.le_refl _))
  ·rcases cond_split h with ⟨h25,h⟩ | ⟨h25,h⟩
   ·obtain ⟨v26,h27,h⟩:=obind_some h
    cases h
    exact stepO_in (st':=⟨[(1,.fn (.func 29) [] [.ptr 0 0],false),(5,sl 1 vint v26,true),(8,sl 1 vint a0,false),(9,.int .i64 ((a0.getD []).length:Int),false),(10,.int .i64 (wrapF .i64 (s0.2.1 + 1)),false)],[.cells [(.int .i64 c0_0,false)],.cells [(sl 1 vint c1_0,false)],.cells [(.int .i64 c2_0,false)],.cells [(sl 1 vint c3_0,false),(sl 1 vint c3_1,false)]]⟩) (by simp only [go_sem,seval,c28_0,St28_0,h17,idxR_O h19,wh21,h22,h25,app_vint_N h27 h25] <;> rfl) (gc_same (Nat.le_refl _))
   ·cases h
 ·cases h
  exact stepO_out (by simp only [go_sem,seval,c28_0,St28_0,h17,Ex28_0] <;> rfl)
theorem l28_0 (a0:Option (List Int)) (c0_0:Int) (c1_0:Option (List Int)) (c2_0:Int) (c3_0:Option (List Int)) (c3_1:Option (List Int)) {s0:(Option (List Int)) × Int × Bool} {d} (h:itO (s28_0 a0 c0_0 c1_0 c2_0 c3_0 c3_1) s0=some d):X pr (.loop c28_0) (St28_0 a0 c0_0 c1_0 c2_0 c3_0 c3_1 s0)=some (Ex28_0 a0 c0_0 c1_0 c2_0 c3_0 c3_1 d):=X_itO (b28_0 a0 c0_0 c1_0 c2_0 c3_0 c3_1) (fun d hh=>by cases hh) h
noncomputable def f28 (a0:Option (List Int)) (c0_0:Int) (c1_0:Option (List Int)) (c2_0:Int) (c3_0:Option (List Int)) (c3_1:Option (List Int)):Option ((Option (List Int)) × Bool):=
 obind (itO (s28_0 a0 c0_0 c1_0 c2_0 c3_0 c3_1) (none,0,false)) fun d28=>
 some (d28.1,d28.2.1)
theorem W28 {a0:Option (List Int)} {c0_0:Int} {c1_0:Option (List Int)} {c2_0:Int} {c3_0:Option (List Int)} {c3_1:Option (List Int)} {r} (h:f28 a0 c0_0 c1_0 c2_0 c3_0 c3_1=some r):callFn pr (X pr) 28 [sl 1 vint a0,.fn (.func 29) [] [.ptr 0 0]] [.cells [(.int .i64 c0_0,false)],.cells [(sl 1 vint c1_0,false)],.cells [(.int .i64 c2_0,false)],.cells [(sl 1 vint c3_0,false),(sl 1 vint c3_1,false)]]=some (sl 1 vint r.1,r.2,[.cells [(.int .i64 c0_0,false)],.cells [(sl 1 vint c1_0,false)],.cells [(.int .i64 c2_0,false)],.cells [(sl 1 vint c3_0,false),(sl 1 vint c3_1,false)]]):=by
 unfold f28 at h
 obtain ⟨d28,h29,h⟩:=obind_some h
 have wh29:X pr (.loop c28_0) ⟨[(1,.fn (.func 29) [] [.ptr 0 0],false),(5,.list true 0 [],false),(8,sl 1 vint a0,false),(9,.int .i64 ((a0.getD []).length:Int),false),(10,.int .i64 0,false)],[.cells [(.int .i64 c0_0,false)],.cells [(sl 1 vint c1_0,false)],.cells [(.int .i64 c2_0,false)],.cells [(sl 1 vint c3_0,false),(sl 1 vint c3_1,false)]]⟩=some (.exit 0,⟨[(1,.fn (.func 29) [] [.ptr 0 0],false),(5,sl 1 vint d28.1,d28.2.1),(8,sl 1 vint a0,false),(9,.int .i64 ((a0.getD []).length:Int),false),(10,.int .i64 d28.2.2,false),(11,.bool false,false)],[.cells [(.int .i64 c0_0,false)],.cells [(sl 1 vint c1_0,false)],.cells [(.int .i64 c2_0,false)],.cells [(sl 1 vint c3_0,false),(sl 1 vint c3_1,false)]]⟩):=l28_0 a0 c0_0 c1_0 c2_0 c3_0 c3_1 h29
 have hr:(d28.1,d28.2.1)=r:=Option.some.inj h
 subst hr
 rw [callFn_at (show pr.fns 28=some c28 from rfl) (by simp)]
 simp only [go_sem,seval,c28,wh29] <;> rfl
end Go.Z
