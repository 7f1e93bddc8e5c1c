/-
  Pairs: functions that mirror the runs, and the runs (printed by walk.py).
-/
import Derived.Test.YtlonjmhacojkjaaGreatDoorR1
import Derived.Test.YtlonjmhacojkjaaGreatDoorG0m
set_option linter.unusedVariables false
set_option linter.unusedSimpArgs false
set_option maxRecDepth 100000
set_option maxHeartbeats 4000000
namespace Go.Z
open Go Go.Abs
noncomputable def s51_0 (a0:GUnit) (a1:GUnit) (s1000:Int × Int):Option ((Int × Int) ⊕ ((Int × Int))):=
 cond (decide (s1000.2 < ((a0.values.getD []).length:Int)))
  (obind (idxO (a0.values.getD []) s1000.2) fun v12=>
  obind (idxO (a1.values.getD []) s1000.2) fun v14=>
  some (.inl (max (max s1000.1 (wrapF .i64 (v12 - v14))) (wrapF .i64 (v14 - v12)),wrapF .i64 (s1000.2 + 1))))
  (some (.inr (s1000.1,s1000.2)))
def St51_0 (a0:GUnit) (a1:GUnit) (s1000:Int × Int):ASt:=⟨[(3,.ptr 1 0,false),(5,.int .i64 s1000.1,false),(9,sl 1 vint a0.values,false),(10,.int .i64 ((a0.values.getD []).length:Int),false),(11,.int .i64 s1000.2,false)],[.cells [(.str a0.serial,false),(sl 1 vint a0.values,false)],.cells [(.str a1.serial,false),(sl 1 vint a1.values,false)]]⟩
def Ex51_0 (a0:GUnit) (a1:GUnit) (d:(Int × Int)):AExit × ASt:=(.exit 0,⟨[(3,.ptr 1 0,false),(5,.int .i64 d.1,false),(9,sl 1 vint a0.values,false),(10,.int .i64 ((a0.values.getD []).length:Int),false),(11,.int .i64 d.2,false),(12,.bool false,false)],[.cells [(.str a0.serial,false),(sl 1 vint a0.values,false)],.cells [(.str a1.serial,false),(sl 1 vint a1.values,false)]]⟩)
theorem b51_0 (a0:GUnit) (a1:GUnit) (s1000:Int × Int) (r) (h:s51_0 a0 a1 s1000=some r):stepO pr c51_0 (St51_0 a0 a1) (Ex51_0 a0 a1) s1000 r:=by
 unfold s51_0 at h
 rcases cond_split h with ⟨h11,h⟩ | ⟨h11,h⟩
 ·obtain ⟨v12,h13,h⟩:=obind_some h
  obtain ⟨v14,h15,h⟩:=obind_some h
  cases h
  exact stepO_in (st':=⟨[(3,.ptr 1 0,false),(5,.int .i64 (max (max s1000.1 (wrapF .i64 (v12 - v14))) (wrapF .i64 (v14 - v12))),false),(9,sl 1 vint a0.values,false),(10,.int .i64 ((a0.values.getD []).length:Int),false),(11,.int .i64 (wrapF .i64 (s1000.2 + 1)),false)],[.cells [(.str a0.serial,false),(sl 1 vint a0.values,false)],.cells [(.str a1.serial,false),(sl 1 vint a1.values,false)]]⟩) (by simp only [go_sem,seval,c51_0,St51_0,h11,idxR_O h13,idxR_O h15] <;> rfl) (gc_same (Nat.le_refl _))
 ·cases h
  exact stepO_out (by simp only [go_sem,seval,c51_0,St51_0,h11,Ex51_0] <;> rfl)
theorem l51_0 (a0:GUnit) (a1:GUnit) {s1000:Int × Int} {d} (h:itO (s51_0 a0 a1) s1000=some d):X pr (.loop c51_0) (St51_0 a0 a1 s1000)=some (Ex51_0 a0 a1 d):=X_itO (b51_0 a0 a1) (fun d hh=>by cases hh) h
noncomputable def f51 (a0:GUnit) (a1:GUnit):Option Int:=
 obind (itO (s51_0 a0 a1) (0,0)) fun d16=>
 some d16.1
theorem W51 {a0:GUnit} {a1:GUnit} {r} (h:f51 a0 a1=some r):callIso pr (X pr) 51 [.agg [.str a0.serial,sl 1 vint a0.values],.agg [.str a1.serial,sl 1 vint a1.values]]=some (.int .i64 r,false):=by
 unfold f51 at h
 obtain ⟨d16,h17,h⟩:=obind_some h
 have wh17:X pr (.loop c51_0) ⟨[(3,.ptr 1 0,false),(5,.int .i64 0,false),(9,sl 1 vint a0.values,false),(10,.int .i64 ((a0.values.getD []).length:Int),false),(11,.int .i64 0,false)],[.cells [(.str a0.serial,false),(sl 1 vint a0.values,false)],.cells [(.str a1.serial,false),(sl 1 vint a1.values,false)]]⟩=some (.exit 0,⟨[(3,.ptr 1 0,false),(5,.int .i64 d16.1,false),(9,sl 1 vint a0.values,false),(10,.int .i64 ((a0.values.getD []).length:Int),false),(11,.int .i64 d16.2,false),(12,.bool false,false)],[.cells [(.str a0.serial,false),(sl 1 vint a0.values,false)],.cells [(.str a1.serial,false),(sl 1 vint a1.values,false)]]⟩):=l51_0 a0 a1 h17
 have hr:d16.1=r:=Option.some.inj h
 subst hr
 have this:∃ hh,callFn pr (X pr) 51 [.agg [.str a0.serial,sl 1 vint a0.values],.agg [.str a1.serial,sl 1 vint a1.values]] []=some (.int .i64 d16.1,false,hh):=by
  rw [callFn_at (show pr.fns 51=some c51 from rfl) (by simp)]
  simp only [go_sem,seval,c51,wh17]
  exact ⟨_,rfl⟩
 obtain ⟨hh,this⟩:=this
 exact callIso_of rfl this (by first | rfl | simp only [go_sem,seval]) (by first | rfl | simp only [go_sem,seval])
noncomputable def f14 (a0:GUnit) (a1:GUnit):Option (Int × Int):=
 obind (E50 a0) fun v1=>
 obind (E50 a1) fun v3=>
 obind (E57 (!decide (((a0.values.getD []).length:Int)=((a1.values.getD []).length:Int))) 2) fun v5=>
 obind (E17 (some [v1,v3,v5])) fun v7=>
 cond (decide (v7=0))
  (obind (f51 a0 a1) fun v10=>
  some (v10,0))
  (some (0,v7))
theorem W14 {a0:GUnit} {a1:GUnit} {r} (h:f14 a0 a1=some r):callIso pr (X pr) 14 [.agg [.str a0.serial,sl 1 vint a0.values],.agg [.str a1.serial,sl 1 vint a1.values]]=some (.tup [.int .i64 r.1,.int .i64 r.2],false):=by
 unfold f14 at h
 obtain ⟨v1,h2,h⟩:=obind_some h
 have wh2:callIso pr (X pr) 50 [.agg [.str a0.serial,sl 1 vint a0.values]]=some (.int .i64 v1,false):=WE50 h2
 obtain ⟨v3,h4,h⟩:=obind_some h
 have wh4:callIso pr (X pr) 50 [.agg [.str a1.serial,sl 1 vint a1.values]]=some (.int .i64 v3,false):=WE50 h4
 obtain ⟨v5,h6,h⟩:=obind_some h
 have wh6:callIso pr (X pr) 43 [.bool (!decide (((a0.values.getD []).length:Int)=((a1.values.getD []).length:Int))),.int .i64 2]=some (.int .i64 v5,false):=WE43 h6
 obtain ⟨v7,h8,h⟩:=obind_some h
 have wh8:callIso pr (X pr) 41 [.list false 1 [.int .i64 v1,.int .i64 v3,.int .i64 v5]]=some (.int .i64 v7,false):=WE41 h8
 rcases cond_split h with ⟨h9,h⟩ | ⟨h9,h⟩
 ·obtain ⟨v10,h11,h⟩:=obind_some h
  have wh11:callIso pr (X pr) 51 [.agg [.str a0.serial,sl 1 vint a0.values],.agg [.str a1.serial,sl 1 vint a1.values]]=some (.int .i64 v10,false):=W51 h11
  have hr:(v10,0)=r:=Option.some.inj h
  subst hr
  have this:∃ hh,callFn pr (X pr) 14 [.agg [.str a0.serial,sl 1 vint a0.values],.agg [.str a1.serial,sl 1 vint a1.values]] []=some (.tup [.int .i64 v10,.int .i64 0],false,hh):=by
   rw [callFn_at (show pr.fns 14=some c14 from rfl) (by simp)]
   simp only [go_sem,seval,c14,wh2,wh4,wh6,wh8,h9,wh11]
   exact ⟨_,rfl⟩
  obtain ⟨hh,this⟩:=this
  exact callIso_of rfl this (by first | rfl | simp only [go_sem,seval]) (by first | rfl | simp only [go_sem,seval])
 ·have hr:(0,v7)=r:=Option.some.inj h
  subst hr
  have this:∃ hh,callFn pr (X pr) 14 [.agg [.str a0.serial,sl 1 vint a0.values],.agg [.str a1.serial,sl 1 vint a1.values]] []=some (.tup [.int .i64 0,.int .i64 v7],false,hh):=by
   rw [callFn_at (show pr.fns 14=some c14 from rfl) (by simp)]
   simp only [go_sem,seval,c14,wh2,wh4,wh6,wh8,h9]
   exact ⟨_,rfl⟩
  obtain ⟨hh,this⟩:=this
  exact callIso_of rfl this (by first | rfl | simp only [go_sem,seval]) (by first | rfl | simp only [go_sem,seval])
noncomputable def s53_0 (a0:Option (List GUnit)) (s1000:(Option (List Int)) × Int × Bool):Option (((Option (List Int)) × Int × Bool) ⊕ (((Option (List Int)) × Bool × Int))):=
 cond (decide (s1000.2.1 < ((a0.getD []).length:Int)))
  (cond s1000.2.2
   (obind (apO s1000.1 [s1000.2.1]) fun v11=>
   some (.inl (v11,wrapF .i64 (s1000.2.1 + 1),true)))
   (cond s1000.1.isNone
    (obind (apO s1000.1 [s1000.2.1]) fun v14=>
    some (.inl (v14,wrapF .i64 (s1000.2.1 + 1),true)))
    (none)))
  (some (.inr (s1000.1,s1000.2.2,s1000.2.1)))
def St53_0 (a0:Option (List GUnit)) (s1000:(Option (List Int)) × Int × Bool):ASt:=⟨[(3,sl 1 vint s1000.1,s1000.2.2),(6,.int .i64 ((a0.getD []).length:Int),false),(7,.int .i64 s1000.2.1,false)],[]⟩
def Ex53_0 (a0:Option (List GUnit)) (d:((Option (List Int)) × Bool × Int)):AExit × ASt:=(.exit 0,⟨[(3,sl 1 vint d.1,d.2.1),(6,.int .i64 ((a0.getD []).length:Int),false),(7,.int .i64 d.2.2,false),(8,.bool false,false)],[]⟩)
theorem b53_0 (a0:Option (List GUnit)) (s1000:(Option (List Int)) × Int × Bool) (r) (h:s53_0 a0 s1000=some r):stepO pr c53_0 (St53_0 a0) (Ex53_0 a0) s1000 r:=by
 unfold s53_0 at h
 rcases cond_split h with ⟨h9,h⟩ | ⟨h9,h⟩
 ·rcases cond_split h with ⟨h10,h⟩ | ⟨h10,h⟩
  ·obtain ⟨v11,h12,h⟩:=obind_some h
   cases h
   exact stepO_in (st':=⟨[(3,sl 1 vint v11,true),(6,.int .i64 ((a0.getD []).length:Int),false),(7,.int .i64 (wrapF .i64 (s1000.2.1 + 1)),false)],[]⟩) (by simp only [go_sem,seval,c53_0,St53_0,h9,h10,app_vint_O h12] <;> rfl) (gc_same (Nat.le_refl _))
  ·rcases cond_split h with ⟨h13,h⟩ | ⟨h13,h⟩
   ·obtain ⟨v14,h15,h⟩:=obind_some h
    cases h
    exact stepO_in (st':=⟨[(3,sl 1 vint v14,true),(6,.int .i64 ((a0.getD []).length:Int),false),(7,.int .i64 (wrapF .i64 (s1000.2.1 + 1)),false)],[]⟩) (by simp only [go_sem,seval,c53_0,St53_0,h9,h10,h13,app_vint_N h15 h13] <;> rfl) (gc_same (Nat.le_refl _))
   ·cases h
 ·cases h
  exact stepO_out (by simp only [go_sem,seval,c53_0,St53_0,h9,Ex53_0] <;> rfl)
theorem l53_0 (a0:Option (List GUnit)) {s1000:(Option (List Int)) × Int × Bool} {d} (h:itO (s53_0 a0) s1000=some d):X pr (.loop c53_0) (St53_0 a0 s1000)=some (Ex53_0 a0 d):=X_itO (b53_0 a0) (fun d hh=>by cases hh) h
noncomputable def f53 (a0:Option (List GUnit)):Option ((Option (List Int)) × Bool):=
 obind (itO (s53_0 a0) (none,0,false)) fun d16=>
 some (d16.1,d16.2.1)
theorem W53 {a0:Option (List GUnit)} {r} (h:f53 a0=some r):callIso pr (X pr) 53 [sl 2 vunit a0]=some (sl 1 vint r.1,r.2):=by
 unfold f53 at h
 obtain ⟨d16,h17,h⟩:=obind_some h
 have wh17:X pr (.loop c53_0) ⟨[(3,.list true 0 [],false),(6,.int .i64 ((a0.getD []).length:Int),false),(7,.int .i64 0,false)],[]⟩=some (.exit 0,⟨[(3,sl 1 vint d16.1,d16.2.1),(6,.int .i64 ((a0.getD []).length:Int),false),(7,.int .i64 d16.2.2,false),(8,.bool false,false)],[]⟩):=l53_0 a0 h17
 have hr:(d16.1,d16.2.1)=r:=Option.some.inj h
 subst hr
 have this:∃ hh,callFn pr (X pr) 53 [sl 2 vunit a0] []=some (sl 1 vint d16.1,d16.2.1,hh):=by
  rw [callFn_at (show pr.fns 53=some c53 from rfl) (by simp)]
  simp only [go_sem,seval,c53,wh17]
  exact ⟨_,rfl⟩
 obtain ⟨hh,this⟩:=this
 exact callIso_of_dyn rfl this (by first | rfl | simp only [go_sem,seval]) (by first | rfl | simp only [go_sem,seval]) (by first | rfl | simp only [go_sem,seval])
noncomputable def f96 (a0:GPair) (c1000_0:Option (List GUnit)) (c1001_0:Int) (c1001_1:Int):Option Int:=
 obind (idxO (c1000_0.getD []) a0.a) fun v1=>
 obind (idxO (c1000_0.getD []) a0.b) fun v3=>
 obind (f51 v1 v3) fun v5=>
 some v5
theorem W96 {a0:GPair} {c1000_0:Option (List GUnit)} {c1001_0:Int} {c1001_1:Int} {r} (h:f96 a0 c1000_0 c1001_0 c1001_1=some r):callFn pr (X pr) 96 [.agg [.int .i64 a0.a,.int .i64 a0.b],.ptr 0 0] [.cells [(sl 2 vunit c1000_0,false)],.cells [(.int .i64 c1001_0,false),(.int .i64 c1001_1,false)]]=some (.int .i64 r,false,[.cells [(sl 2 vunit c1000_0,false)],.cells [(.int .i64 c1001_0,false),(.int .i64 c1001_1,false)],.cells [(.int .i64 a0.a,false),(.int .i64 a0.b,false)]]):=by
 unfold f96 at h
 obtain ⟨v1,h2,h⟩:=obind_some h
 obtain ⟨v3,h4,h⟩:=obind_some h
 obtain ⟨v5,h6,h⟩:=obind_some h
 have wh6:callIso pr (X pr) 51 [.agg [.str v1.serial,sl 1 vint v1.values],.agg [.str v3.serial,sl 1 vint v3.values]]=some (.int .i64 v5,false):=W51 h6
 have hr:v5=r:=Option.some.inj h
 subst hr
 rw [callFn_at (show pr.fns 96=some c96 from rfl) (by simp)]
 simp only [go_sem,seval,c96,idxR_O h2,idxR_O h4,wh6] <;> rfl
noncomputable def s95_0 (a0:Option (List GPair)) (c1000_0:Option (List GUnit)) (s1000:(Option (List Int)) × Int × Bool):Option (((Option (List Int)) × Int × Bool) ⊕ (((Option (List Int)) × Bool × Int))):=
 cond (decide (s1000.2.1 < ((a0.getD []).length:Int)))
  (obind (idxO (a0.getD []) s1000.2.1) fun v18=>
  obind (f96 v18 c1000_0 v18.a v18.b) fun v20=>
  cond s1000.2.2
   (obind (apO s1000.1 [v20]) fun v23=>
   some (.inl (v23,wrapF .i64 (s1000.2.1 + 1),true)))
   (cond s1000.1.isNone
    (obind (apO s1000.1 [v20]) fun v26=>
    some (.inl (v26,wrapF .i64 (s1000.2.1 + 1),true)))
    (none)))
  (some (.inr (s1000.1,s1000.2.2,s1000.2.1)))
def St95_0 (a0:Option (List GPair)) (c1000_0:Option (List GUnit)) (s1000:(Option (List Int)) × Int × Bool):ASt:=⟨[(1,.fn (.func 96) [] [.ptr 0 0],false),(5,sl 1 vint s1000.1,s1000.2.2),(8,sl 2 vpair a0,false),(9,.int .i64 ((a0.getD []).length:Int),false),(10,.int .i64 s1000.2.1,false)],[.cells [(sl 2 vunit c1000_0,false)]]⟩
def Ex95_0 (a0:Option (List GPair)) (c1000_0:Option (List GUnit)) (d:((Option (List Int)) × Bool × Int)):AExit × ASt:=(.exit 0,⟨[(1,.fn (.func 96) [] [.ptr 0 0],false),(5,sl 1 vint d.1,d.2.1),(8,sl 2 vpair a0,false),(9,.int .i64 ((a0.getD []).length:Int),false),(10,.int .i64 d.2.2,false),(11,.bool false,false)],[.cells [(sl 2 vunit c1000_0,false)]]⟩)
theorem b95_0 (a0:Option (List GPair)) (c1000_0:Option (List GUnit)) (s1000:(Option (List Int)) × Int × Bool) (r) (h:s95_0 a0 c1000_0 s1000=some r):stepO pr c95_0 (St95_0 a0 c1000_0) (Ex95_0 a0 c1000_0) s1000 r:=by
 unfold s95_0 at h
 rcases cond_split h with ⟨h17,h⟩ | ⟨h17,h⟩
 ·obtain ⟨v18,h19,h⟩:=obind_some h
  obtain ⟨v20,h21,h⟩:=obind_some h
  have wh21:callFn pr (X pr) 96 [.agg [.int .i64 v18.a,.int .i64 v18.b],.ptr 0 0] [.cells [(sl 2 vunit c1000_0,false)],.cells [(.int .i64 v18.a,false),(.int .i64 v18.b,false)]]=some (.int .i64 v20,false,[.cells [(sl 2 vunit c1000_0,false)],.cells [(.int .i64 v18.a,false),(.int .i64 v18.b,false)],.cells [(.int .i64 v18.a,false),(.int .i64 v18.b,false)]]):=W96 h21
  rcases cond_split h with ⟨h22,h⟩ | ⟨h22,h⟩
  ·obtain ⟨v23,h24,h⟩:=obind_some h
   cases h
   exact stepO_in (st':=⟨[(1,.fn (.func 96) [] [.ptr 0 0],false),(5,sl 1 vint v23,true),(8,sl 2 vpair a0,false),(9,.int .i64 ((a0.getD []).length:Int),false),(10,.int .i64 (wrapF .i64 (s1000.2.1 + 1)),false)],[.cells [(sl 2 vunit c1000_0,false)]]++[.cells [(.int .i64 v18.a,false),(.int .i64 v18.b,false)]]⟩) (by simp only [go_sem,seval,c95_0,St95_0,h17,idxR_O h19,wh21,h22,app_vint_O h24] <;> rfl) (gc_over rfl rfl (by first | simp only [go_sem,seval,St95_0] | rfl) (by first | simp only [go_sem,seval,St95_0] | rfl))
  ·rcases cond_split h with ⟨h25,h⟩ | ⟨h25,h⟩
   ·obtain ⟨v26,h27,h⟩:=obind_some h
    cases h
    exact stepO_in (st':=⟨[(1,.fn (.func 96) [] [.ptr 0 0],false),(5,sl 1 vint v26,true),(8,sl 2 vpair a0,false),(9,.int .i64 ((a0.getD []).length:Int),false),(10,.int .i64 (wrapF .i64 (s1000.2.1 + 1)),false)],[.cells [(sl 2 vunit c1000_0,false)]]++[.cells [(.int .i64 v18.a,false),(.int .i64 v18.b,false)]]⟩) (by simp only [go_sem,seval,c95_0,St95_0,h17,idxR_O h19,wh21,h22,h25,app_vint_N h27 h25] <;> rfl) (gc_over rfl rfl (by first | simp only [go_sem,seval,St95_0] | rfl) (by first | simp only [go_sem,seval,St95_0] | rfl))
   ·cases h
 ·cases h
  exact stepO_out (by simp only [go_sem,seval,c95_0,St95_0,h17,Ex95_0] <;> rfl)
theorem l95_0 (a0:Option (List GPair)) (c1000_0:Option (List GUnit)) {s1000:(Option (List Int)) × Int × Bool} {d} (h:itO (s95_0 a0 c1000_0) s1000=some d):X pr (.loop c95_0) (St95_0 a0 c1000_0 s1000)=some (Ex95_0 a0 c1000_0 d):=X_itO (b95_0 a0 c1000_0) (fun d hh=>by cases hh) h
noncomputable def f95 (a0:Option (List GPair)) (c1000_0:Option (List GUnit)):Option ((Option (List Int)) × Bool):=
 obind (itO (s95_0 a0 c1000_0) (none,0,false)) fun d28=>
 some (d28.1,d28.2.1)
theorem W95 {a0:Option (List GPair)} {c1000_0:Option (List GUnit)} {r} (h:f95 a0 c1000_0=some r):callFn pr (X pr) 95 [sl 2 vpair a0,.fn (.func 96) [] [.ptr 0 0]] [.cells [(sl 2 vunit c1000_0,false)]]=some (sl 1 vint r.1,r.2,[.cells [(sl 2 vunit c1000_0,false)]]):=by
 unfold f95 at h
 obtain ⟨d28,h29,h⟩:=obind_some h
 have wh29:X pr (.loop c95_0) ⟨[(1,.fn (.func 96) [] [.ptr 0 0],false),(5,.list true 0 [],false),(8,sl 2 vpair a0,false),(9,.int .i64 ((a0.getD []).length:Int),false),(10,.int .i64 0,false)],[.cells [(sl 2 vunit c1000_0,false)]]⟩=some (.exit 0,⟨[(1,.fn (.func 96) [] [.ptr 0 0],false),(5,sl 1 vint d28.1,d28.2.1),(8,sl 2 vpair a0,false),(9,.int .i64 ((a0.getD []).length:Int),false),(10,.int .i64 d28.2.2,false),(11,.bool false,false)],[.cells [(sl 2 vunit c1000_0,false)]]⟩):=l95_0 a0 c1000_0 h29
 have hr:(d28.1,d28.2.1)=r:=Option.some.inj h
 subst hr
 rw [callFn_at (show pr.fns 95=some c95 from rfl) (by simp)]
 simp only [go_sem,seval,c95,wh29] <;> rfl
noncomputable def f75 (a0:Option (List GUnit)) (a1:Option (List GPair)):Option Int:=
 obind (f95 a1 a0) fun v1=>
 cond v1.2
  (obind (apO v1.1 [0]) fun v4=>
  obind (E47 v4) fun v6=>
  some v6)
  (cond v1.1.isNone
   (obind (apO v1.1 [0]) fun v9=>
   obind (E47 v9) fun v11=>
   some v11)
   (none))
theorem W75 {a0:Option (List GUnit)} {a1:Option (List GPair)} {r} (h:f75 a0 a1=some r):callIso pr (X pr) 75 [sl 2 vunit a0,sl 2 vpair a1]=some (.int .i64 r,false):=by
 unfold f75 at h
 obtain ⟨v1,h2,h⟩:=obind_some h
 have wh2:callFn pr (X pr) 95 [sl 2 vpair a1,.fn (.func 96) [] [.ptr 0 0]] [.cells [(sl 2 vunit a0,false)]]=some (sl 1 vint v1.1,v1.2,[.cells [(sl 2 vunit a0,false)]]):=W95 h2
 rcases cond_split h with ⟨h3,h⟩ | ⟨h3,h⟩
 ·obtain ⟨v4,h5,h⟩:=obind_some h
  obtain ⟨v6,h7,h⟩:=obind_some h
  have wh7:callIso pr (X pr) 47 [sl 1 vint v4]=some (.int .i64 v6,false):=WE47 h7
  have hr:v6=r:=Option.some.inj h
  subst hr
  have this:∃ hh,callFn pr (X pr) 75 [sl 2 vunit a0,sl 2 vpair a1] []=some (.int .i64 v6,false,hh):=by
   rw [callFn_at (show pr.fns 75=some c75 from rfl) (by simp)]
   simp only [go_sem,seval,c75,wh2,h3,app_vint_O h5,wh7]
   exact ⟨_,rfl⟩
  obtain ⟨hh,this⟩:=this
  exact callIso_of rfl this (by first | rfl | simp only [go_sem,seval]) (by first | rfl | simp only [go_sem,seval])
 ·rcases cond_split h with ⟨h8,h⟩ | ⟨h8,h⟩
  ·obtain ⟨v9,h10,h⟩:=obind_some h
   obtain ⟨v11,h12,h⟩:=obind_some h
   have wh12:callIso pr (X pr) 47 [sl 1 vint v9]=some (.int .i64 v11,false):=WE47 h12
   have hr:v11=r:=Option.some.inj h
   subst hr
   have this:∃ hh,callFn pr (X pr) 75 [sl 2 vunit a0,sl 2 vpair a1] []=some (.int .i64 v11,false,hh):=by
    rw [callFn_at (show pr.fns 75=some c75 from rfl) (by simp)]
    simp only [go_sem,seval,c75,wh2,h3,h8,app_vint_N h10 h8,wh12]
    exact ⟨_,rfl⟩
   obtain ⟨hh,this⟩:=this
   exact callIso_of rfl this (by first | rfl | simp only [go_sem,seval]) (by first | rfl | simp only [go_sem,seval])
  ·cases h
noncomputable def s16_0 (a0:Option (List GPair)) (a1:Option (List GPair)) (s1000:Int):Option (Int ⊕ (Unit ⊕ Int)):=
 cond (decide (s1000 < ((a0.getD []).length:Int)))
  (obind (idxO (a0.getD []) s1000) fun v15=>
  obind (idxO (a1.getD []) s1000) fun v17=>
  cond (decide (v15.a=v17.a) && decide (v15.b=v17.b))
   (some (.inl (wrapF .i64 (s1000 + 1))))
   (some (.inr (.inl ()))))
  (some (.inr (.inr s1000)))
def St16_0 (a0:Option (List GPair)) (a1:Option (List GPair)) (s1000:Int):ASt:=⟨[(0,sl 2 vpair a0,false),(1,sl 2 vpair a1,false),(5,.int .i64 s1000,false)],[]⟩
def Ex16_0 (a0:Option (List GPair)) (a1:Option (List GPair)):Unit ⊕ Int→AExit × ASt
 | .inl d=>(.ret,⟨[(4,.bool false,false)],[]⟩)
 | .inr d=>(.exit 0,⟨[(0,sl 2 vpair a0,false),(1,sl 2 vpair a1,false),(5,.int .i64 d,false),(14,.bool false,false)],[]⟩)
theorem b16_0 (a0:Option (List GPair)) (a1:Option (List GPair)) (s1000:Int) (r) (h:s16_0 a0 a1 s1000=some r):stepO pr c16_0 (St16_0 a0 a1) (Ex16_0 a0 a1) s1000 r:=by
 unfold s16_0 at h
 rcases cond_split h with ⟨h14,h⟩ | ⟨h14,h⟩
 ·obtain ⟨v15,h16,h⟩:=obind_some h
  obtain ⟨v17,h18,h⟩:=obind_some h
  rcases cond_split h with ⟨h19,h⟩ | ⟨h19,h⟩
  ·cases h
   exact stepO_in (st':=⟨[(0,sl 2 vpair a0,false),(1,sl 2 vpair a1,false),(5,.int .i64 (wrapF .i64 (s1000 + 1)),false)],[]⟩) (by simp only [go_sem,seval,c16_0,St16_0,h14,idxR_O h16,idxR_O h18,h19] <;> rfl) (gc_same (Nat.le_refl _))
  ·cases h
   exact stepO_out (by simp only [go_sem,seval,c16_0,St16_0,h14,idxR_O h16,idxR_O h18,h19,Ex16_0] <;> rfl)
 ·cases h
  exact stepO_out (by simp only [go_sem,seval,c16_0,St16_0,h14,Ex16_0] <;> rfl)
theorem l16_0 (a0:Option (List GPair)) (a1:Option (List GPair)) {s1000:Int} {d} (h:itO (s16_0 a0 a1) s1000=some d):X pr (.loop c16_0) (St16_0 a0 a1 s1000)=some (Ex16_0 a0 a1 d):=X_itO (b16_0 a0 a1) (fun d=>by rcases d with d|d <;> (intro hh; cases hh)) h
noncomputable def f16 (a0:Option (List GPair)) (a1:Option (List GPair)):Option Bool:=
 cond (decide (((a0.getD []).length:Int)=((a1.getD []).length:Int)))
  (obind (itO (s16_0 a0 a1) 0) fun d20=>match d20 with
   | .inl d22=>
    some false
   | .inr d23=>
    some true)
  (some false)
theorem W16 {a0:Option (List GPair)} {a1:Option (List GPair)} {r} (h:f16 a0 a1=some r):callIso pr (X pr) 16 [sl 2 vpair a0,sl 2 vpair a1]=some (.bool r,false):=by
 unfold f16 at h
 rcases cond_split h with ⟨h1,h⟩ | ⟨h1,h⟩
 ·obtain ⟨d20,h21,h⟩:=obind_some h
  rcases d20 with d22 | d23
  ·have wh21:X pr (.loop c16_0) ⟨[(0,sl 2 vpair a0,false),(1,sl 2 vpair a1,false),(5,.int .i64 0,false)],[]⟩=some (.ret,⟨[(4,.bool false,false)],[]⟩):=l16_0 a0 a1 h21
   have hr:false=r:=Option.some.inj h
   subst hr
   have this:∃ hh,callFn pr (X pr) 16 [sl 2 vpair a0,sl 2 vpair a1] []=some (.bool false,false,hh):=by
    rw [callFn_at (show pr.fns 16=some c16 from rfl) (by simp)]
    simp only [go_sem,seval,c16,h1,wh21]
    exact ⟨_,rfl⟩
   obtain ⟨hh,this⟩:=this
   exact callIso_of rfl this (by first | rfl | simp only [go_sem,seval]) (by first | rfl | simp only [go_sem,seval])
  ·have wh21:X pr (.loop c16_0) ⟨[(0,sl 2 vpair a0,false),(1,sl 2 vpair a1,false),(5,.int .i64 0,false)],[]⟩=some (.exit 0,⟨[(0,sl 2 vpair a0,false),(1,sl 2 vpair a1,false),(5,.int .i64 d23,false),(14,.bool false,false)],[]⟩):=l16_0 a0 a1 h21
   have hr:true=r:=Option.some.inj h
   subst hr
   have this:∃ hh,callFn pr (X pr) 16 [sl 2 vpair a0,sl 2 vpair a1] []=some (.bool true,false,hh):=by
    rw [callFn_at (show pr.fns 16=some c16 from rfl) (by simp)]
    simp only [go_sem,seval,c16,h1,wh21]
    exact ⟨_,rfl⟩
   obtain ⟨hh,this⟩:=this
   exact callIso_of rfl this (by first | rfl | simp only [go_sem,seval]) (by first | rfl | simp only [go_sem,seval])
 ·have hr:false=r:=Option.some.inj h
  subst hr
  have this:∃ hh,callFn pr (X pr) 16 [sl 2 vpair a0,sl 2 vpair a1] []=some (.bool false,false,hh):=by
   rw [callFn_at (show pr.fns 16=some c16 from rfl) (by simp)]
   simp only [go_sem,seval,c16,h1]
   exact ⟨_,rfl⟩
  obtain ⟨hh,this⟩:=this
  exact callIso_of rfl this (by first | rfl | simp only [go_sem,seval]) (by first | rfl | simp only [go_sem,seval])
end Go.Z
/-
 The growth of an empty list: its contract.
-/
namespace Go.Z
open Go Go.Abs
@[go_sem] theorem lenR_cap_sl {α:Type} {h:Heap} {z:Nat} {f:α→AVal}:lenR 2 h (some (sl z f (none:Option (List α))))=some ⟨.int .i64 0,false,none,h⟩:=rfl
theorem sl_noneE {α:Type} {z:Nat} {f:α→AVal}:sl z f (none:Option (List α))=.list true 0 []:=rfl
theorem X_growE {p:AProg} {sz m z:Nat} {o1 o2:Bool} {xs:List AVal} {e:Env} {h:Heap} (hm:0 < m) (hm2:m≤1073741824):X p (.grow sz) ⟨(0,.list true z xs,o1)::(1,.int .i64 (m:Int),o2)::e,h⟩=some (.normal,⟨[(0,.list false sz [],true)],h⟩):=by
 refine X_iff.2 ⟨1,?_⟩
 have h1:Nat.blt 0 m=true:=Nat.blt_eq.mpr hm
 have h2:Nat.ble m 1073741824=true:=Nat.ble_eq_true_of_le hm2
 show (bif Nat.blt 0 m && Nat.ble m 1073741824 then some (AExit.normal,({ env:=[(0,.list false sz [],true)],heap:=h }:ASt)) else none)=_
 rw [h1,h2]; rfl
noncomputable def E97 (o:Option (List Int)) (n:Int):Option (Option (List Int) × Bool):=exO (o=none∧0≤n∧n≤1073741824) (if n=0 then (none,false) else (some [],true))
theorem WE97 {o n r} (h:E97 o n=some r):callIso pr (X pr) 97 [sl 1 vint o,.int .i64 n]=some (sl 1 vint r.1,r.2):=by
 obtain ⟨⟨rfl,h1,h2⟩,rfl⟩:=exO_some h
 obtain ⟨m,rfl⟩:∃ m:Nat,n=(m:Int):=⟨n.toNat,by omega⟩
 have hn:¬ (m:Int) < 0:=by omega
 have hw:wrapF .i64 ((m:Int) - wrapF .i64 (0 - 0))=(m:Int):=by
  rw [show wrapF .i64 (0 - 0)=0 from rfl,Int.sub_zero,wrapF_i64 (by omega) (by omega)]
 have hw':wrapF .i64 ((m:Int) - 0)=(m:Int):=by
  rw [Int.sub_zero,wrapF_i64 (by omega) (by omega)]
 have hw0:wrapF .i64 0=0:=rfl
 have hwm:wrapF .i64 (m:Int)=(m:Int):=wrapF_i64 (by omega) (by omega)
 by_cases hm:m=0
 ·subst hm
  have:callFn pr (X pr) 97 [sl 1 vint (none:Option (List Int)),.int .i64 ((0:Nat):Int)] []=some (.list true 0 [],false,[]):=by
   rw [callFn_at (show pr.fns 97=some c97 from rfl) (by simp)]
   simp only [go_sem,seval,c97,sl_noneE,hw0,Int.sub_zero,Int.natCast_zero,Int.lt_irrefl,decide_false] <;> rfl
  exact callIso_of rfl this rfl (by simp only [go_sem,seval])
 ·have hgt:(0:Int) < (m:Int):=by omega
  have hne:¬ (m:Int)=0:=by omega
  have hg:=fun (e:Env) (h:Heap) (z:Nat) (o1 o2:Bool) (xs:List AVal)=>X_growE (p:=pr) (sz:=1) (m:=m) (z:=z) (o1:=o1) (o2:=o2) (xs:=xs) (e:=e) (h:=h) (by omega) (by omega)
  have:callFn pr (X pr) 97 [sl 1 vint (none:Option (List Int)),.int .i64 (m:Int)] []=some (.list false 1 [],true,[]):=by
   rw [callFn_at (show pr.fns 97=some c97 from rfl) (by simp)]
   simp only [go_sem,seval,c97,hw0,Int.sub_zero,hwm,hn,hgt,hg,sl_noneE] <;> rfl
  rw [if_neg hne]
  exact callIso_of_own rfl this rfl (by simp only [go_sem,seval]) rfl
end Go.Z
/-
 Pairs: functions that mirror the runs,and the runs,second part (printed by walk.py).
-/
namespace Go.Z
open Go Go.Abs
noncomputable def s77_0 (a0:Option (List (Option (List Int)))) (s1000:Int × Int):Option ((Int × Int) ⊕ ((Int × Int))):=
 cond (decide (s1000.2 < ((a0.getD []).length:Int)))
  (obind (idxO (a0.getD []) s1000.2) fun v10=>
  cond (decide ((wrapF .i64 (s1000.1 + ((v10.getD []).length:Int))) < 0))
   (none)
   (some (.inl (wrapF .i64 (s1000.1 + ((v10.getD []).length:Int)),wrapF .i64 (s1000.2 + 1)))))
  (some (.inr (s1000.1,s1000.2)))
def St77_0 (a0:Option (List (Option (List Int)))) (s1000:Int × Int):ASt:=⟨[(0,sl 1 (sl 1 vint) a0,false),(3,.int .i64 s1000.1,false),(9,sl 1 (sl 1 vint) a0,false),(10,.int .i64 ((a0.getD []).length:Int),false),(11,.int .i64 s1000.2,false)],[]⟩
def Ex77_0 (a0:Option (List (Option (List Int)))) (d:(Int × Int)):AExit × ASt:=(.exit 0,⟨[(0,sl 1 (sl 1 vint) a0,false),(3,.int .i64 d.1,false),(9,sl 1 (sl 1 vint) a0,false),(10,.int .i64 ((a0.getD []).length:Int),false),(11,.int .i64 d.2,false),(12,.bool false,false)],[]⟩)
theorem b77_0 (a0:Option (List (Option (List Int)))) (s1000:Int × Int) (r) (h:s77_0 a0 s1000=some r):stepO pr c77_0 (St77_0 a0) (Ex77_0 a0) s1000 r:=by
 unfold s77_0 at h
 rcases cond_split h with ⟨h9,h⟩ | ⟨h9,h⟩
 ·obtain ⟨v10,h11,h⟩:=obind_some h
  rcases cond_split h with ⟨h12,h⟩ | ⟨h12,h⟩
  ·cases h
  ·cases h
   exact stepO_in (st':=⟨[(0,sl 1 (sl 1 vint) a0,false),(3,.int .i64 (wrapF .i64 (s1000.1 + ((v10.getD []).length:Int))),false),(9,sl 1 (sl 1 vint) a0,false),(10,.int .i64 ((a0.getD []).length:Int),false),(11,.int .i64 (wrapF .i64 (s1000.2 + 1)),false)],[]⟩) (by simp only [go_sem,seval,c77_0,St77_0,h9,idxR_O h11,h12] <;> rfl) (gc_same (Nat.le_refl _))
 ·cases h
  exact stepO_out (by simp only [go_sem,seval,c77_0,St77_0,h9,Ex77_0] <;> rfl)
theorem l77_0 (a0:Option (List (Option (List Int)))) {s1000:Int × Int} {d} (h:itO (s77_0 a0) s1000=some d):X pr (.loop c77_0) (St77_0 a0 s1000)=some (Ex77_0 a0 d):=X_itO (b77_0 a0) (fun d hh=>by cases hh) h
noncomputable def s77_1 (a0:Option (List (Option (List Int)))) (s1001:(Option (List Int)) × Int × Bool):Option (((Option (List Int)) × Int × Bool) ⊕ (((Option (List Int)) × Bool × Int))):=
 cond (decide (s1001.2.1 < ((a0.getD []).length:Int)))
  (obind (idxO (a0.getD []) s1001.2.1) fun v36=>
  cond s1001.2.2
   (obind (apO s1001.1 (v36.getD [])) fun v39=>
   some (.inl (v39,wrapF .i64 (s1001.2.1 + 1),true)))
   (cond s1001.1.isNone
    (obind (apO s1001.1 (v36.getD [])) fun v42=>
    some (.inl (v42,wrapF .i64 (s1001.2.1 + 1),true)))
    (none)))
  (some (.inr (s1001.1,s1001.2.2,s1001.2.1)))
def St77_1 (a0:Option (List (Option (List Int)))) (s1001:(Option (List Int)) × Int × Bool):ASt:=⟨[(6,sl 1 vint s1001.1,s1001.2.2),(25,sl 1 (sl 1 vint) a0,false),(26,.int .i64 ((a0.getD []).length:Int),false),(27,.int .i64 s1001.2.1,false)],[]⟩
def Ex77_1 (a0:Option (List (Option (List Int)))) (d:((Option (List Int)) × Bool × Int)):AExit × ASt:=(.exit 2,⟨[(6,sl 1 vint d.1,d.2.1),(25,sl 1 (sl 1 vint) a0,false),(26,.int .i64 ((a0.getD []).length:Int),false),(27,.int .i64 d.2.2,false),(28,.bool false,false)],[]⟩)
theorem b77_1 (a0:Option (List (Option (List Int)))) (s1001:(Option (List Int)) × Int × Bool) (r) (h:s77_1 a0 s1001=some r):stepO pr c77_1 (St77_1 a0) (Ex77_1 a0) s1001 r:=by
 unfold s77_1 at h
 rcases cond_split h with ⟨h35,h⟩ | ⟨h35,h⟩
 ·obtain ⟨v36,h37,h⟩:=obind_some h
  rcases cond_split h with ⟨h38,h⟩ | ⟨h38,h⟩
  ·obtain ⟨v39,h40,h⟩:=obind_some h
   cases h
   exact stepO_in (st':=⟨[(6,sl 1 vint v39,true),(25,sl 1 (sl 1 vint) a0,false),(26,.int .i64 ((a0.getD []).length:Int),false),(27,.int .i64 (wrapF .i64 (s1001.2.1 + 1)),false)],[]⟩) (by simp only [go_sem,seval,c77_1,St77_1,h35,idxR_O h37,h38,app_sl_O h40] <;> rfl) (gc_same (Nat.le_refl _))
  ·rcases cond_split h with ⟨h41,h⟩ | ⟨h41,h⟩
   ·obtain ⟨v42,h43,h⟩:=obind_some h
    cases h
    exact stepO_in (st':=⟨[(6,sl 1 vint v42,true),(25,sl 1 (sl 1 vint) a0,false),(26,.int .i64 ((a0.getD []).length:Int),false),(27,.int .i64 (wrapF .i64 (s1001.2.1 + 1)),false)],[]⟩) (by simp only [go_sem,seval,c77_1,St77_1,h35,idxR_O h37,h38,h41,app_sl_N h43 h41] <;> rfl) (gc_same (Nat.le_refl _))
   ·cases h
 ·cases h
  exact stepO_out (by simp only [go_sem,seval,c77_1,St77_1,h35,Ex77_1] <;> rfl)
theorem l77_1 (a0:Option (List (Option (List Int)))) {s1001:(Option (List Int)) × Int × Bool} {d} (h:itO (s77_1 a0) s1001=some d):X pr (.loop c77_1) (St77_1 a0 s1001)=some (Ex77_1 a0 d):=X_itO (b77_1 a0) (fun d hh=>by cases hh) h
noncomputable def f77 (a0:Option (List (Option (List Int)))):Option ((Option (List Int)) × Bool):=
 obind (itO (s77_0 a0) (0,0)) fun d13=>
 obind (E97 none d13.1) fun v15=>
 obind (itO (s77_1 a0) (v15.1,0,v15.2)) fun d44=>
 some (d44.1,d44.2.1)
theorem W77 {a0:Option (List (Option (List Int)))} {r} (h:f77 a0=some r):callIso pr (X pr) 77 [sl 1 (sl 1 vint) a0]=some (sl 1 vint r.1,r.2):=by
 unfold f77 at h
 obtain ⟨d13,h14,h⟩:=obind_some h
 have wh14:X pr (.loop c77_0) ⟨[(0,sl 1 (sl 1 vint) a0,false),(3,.int .i64 0,false),(9,sl 1 (sl 1 vint) a0,false),(10,.int .i64 ((a0.getD []).length:Int),false),(11,.int .i64 0,false)],[]⟩=some (.exit 0,⟨[(0,sl 1 (sl 1 vint) a0,false),(3,.int .i64 d13.1,false),(9,sl 1 (sl 1 vint) a0,false),(10,.int .i64 ((a0.getD []).length:Int),false),(11,.int .i64 d13.2,false),(12,.bool false,false)],[]⟩):=l77_0 a0 h14
 obtain ⟨v15,h16,h⟩:=obind_some h
 have wh16:callIso pr (X pr) 97 [.list true 0 [],.int .i64 d13.1]=some (sl 1 vint v15.1,v15.2):=WE97 h16
 obtain ⟨d44,h45,h⟩:=obind_some h
 have wh45:X pr (.loop c77_1) ⟨[(6,sl 1 vint v15.1,v15.2),(25,sl 1 (sl 1 vint) a0,false),(26,.int .i64 ((a0.getD []).length:Int),false),(27,.int .i64 0,false)],[]⟩=some (.exit 2,⟨[(6,sl 1 vint d44.1,d44.2.1),(25,sl 1 (sl 1 vint) a0,false),(26,.int .i64 ((a0.getD []).length:Int),false),(27,.int .i64 d44.2.2,false),(28,.bool false,false)],[]⟩):=l77_1 a0 h45
 have hr:(d44.1,d44.2.1)=r:=Option.some.inj h
 subst hr
 have this:∃ hh,callFn pr (X pr) 77 [sl 1 (sl 1 vint) a0] []=some (sl 1 vint d44.1,d44.2.1,hh):=by
  rw [callFn_at (show pr.fns 77=some c77 from rfl) (by simp)]
  simp only [go_sem,seval,c77,wh14,wh16,wh45]
  exact ⟨_,rfl⟩
 obtain ⟨hh,this⟩:=this
 exact callIso_of_dyn rfl this (by first | rfl | simp only [go_sem,seval]) (by first | rfl | simp only [go_sem,seval]) (by first | rfl | simp only [go_sem,seval])
noncomputable def s52_0 (a1:Option (List Int)) (a2:Option (List GPair)) (c1000_0:Option (List GUnit)) (rec:(Option (List Int))→(Option (List GPair))→(Option (List GUnit))→(Option (List GPair))→Bool→Int→Bool→Option ((Option (List GPair)) × Int × Bool × Bool)) (v11:Int) (s1000:Int × (Option (List GPair)) × Int × Bool × Bool):Option ((Int × (Option (List GPair)) × Int × Bool × Bool) ⊕ ((Int × (Option (List GPair)) × Bool × Int × Bool))):=
 cond (decide (s1000.1 < ((a1.getD []).length:Int)))
  (obind (cutSO a1 (some 1) (some s1000.1)) fun v58=>
  obind (cutSO a1 (some (wrapF .i64 (s1000.1 + 1))) none) fun v60=>
  obind (f77 (some [v58,v60])) fun v62=>
  cond a2.isNone
   (obind (E76n a2) fun v65=>
   obind (idxO (a1.getD []) s1000.1) fun v67=>
   obind (rec v62.1 (some [⟨v11,v67⟩]) c1000_0 s1000.2.1 s1000.2.2.2.2 s1000.2.2.1 s1000.2.2.2.1) fun v69=>
   some (.inl (wrapF .i64 (s1000.1 + 1),v69.1,v69.2.1,v69.2.2.1,v69.2.2.2)))
   (obind (E76 a2) fun v71=>
   obind (idxO (a1.getD []) s1000.1) fun v73=>
   obind (apO v71 [⟨v11,v73⟩]) fun v75=>
   obind (rec v62.1 v75 c1000_0 s1000.2.1 s1000.2.2.2.2 s1000.2.2.1 s1000.2.2.2.1) fun v77=>
   some (.inl (wrapF .i64 (s1000.1 + 1),v77.1,v77.2.1,v77.2.2.1,v77.2.2.2))))
  (some (.inr (s1000.1,s1000.2.1,s1000.2.2.2.2,s1000.2.2.1,s1000.2.2.2.1)))
def St52_0 (a1:Option (List Int)) (a2:Option (List GPair)) (c1000_0:Option (List GUnit)) (rec:(Option (List Int))→(Option (List GPair))→(Option (List GUnit))→(Option (List GPair))→Bool→Int→Bool→Option ((Option (List GPair)) × Int × Bool × Bool)) (v11:Int) (s1000:Int × (Option (List GPair)) × Int × Bool × Bool):ASt:=⟨[(0,.ptr 0 0,false),(1,sl 1 vint a1,false),(2,sl 2 vpair a2,false),(7,.int .i64 v11,false),(8,.int .i64 s1000.1,false)],[.cells [(sl 2 vunit c1000_0,false),(sl 2 vpair s1000.2.1,s1000.2.2.2.2),(.int .i64 s1000.2.2.1,false),(.bool s1000.2.2.2.1,false)]]⟩
def Ex52_0 (a1:Option (List Int)) (a2:Option (List GPair)) (c1000_0:Option (List GUnit)) (rec:(Option (List Int))→(Option (List GPair))→(Option (List GUnit))→(Option (List GPair))→Bool→Int→Bool→Option ((Option (List GPair)) × Int × Bool × Bool)) (v11:Int) (d:(Int × (Option (List GPair)) × Bool × Int × Bool)):AExit × ASt:=(.exit 0,⟨[(0,.ptr 0 0,false),(1,sl 1 vint a1,false),(2,sl 2 vpair a2,false),(7,.int .i64 v11,false),(8,.int .i64 d.1,false),(49,.bool false,false)],[.cells [(sl 2 vunit c1000_0,false),(sl 2 vpair d.2.1,d.2.2.1),(.int .i64 d.2.2.2.1,false),(.bool d.2.2.2.2,false)]]⟩)
theorem b52_0 (a1:Option (List Int)) (a2:Option (List GPair)) (c1000_0:Option (List GUnit)) (rec:(Option (List Int))→(Option (List GPair))→(Option (List GUnit))→(Option (List GPair))→Bool→Int→Bool→Option ((Option (List GPair)) × Int × Bool × Bool)) (v11:Int) (hrec:∀ {a1:Option (List Int)} {a2:Option (List GPair)} {c1000_0:Option (List GUnit)} {c1000_1:Option (List GPair)} {o0_1:Bool} {c1000_2:Int} {c1000_3:Bool} {r},rec a1 a2 c1000_0 c1000_1 o0_1 c1000_2 c1000_3=some r→callFn pr (X pr) 52 [.ptr 0 0,sl 1 vint a1,sl 2 vpair a2] [.cells [(sl 2 vunit c1000_0,false),(sl 2 vpair c1000_1,o0_1),(.int .i64 c1000_2,false),(.bool c1000_3,false)]]=some (.tup [],false,[.cells [(sl 2 vunit c1000_0,false),(sl 2 vpair r.1,r.2.2.2),(.int .i64 r.2.1,false),(.bool r.2.2.1,false)]])) (s1000:Int × (Option (List GPair)) × Int × Bool × Bool) (r) (h:s52_0 a1 a2 c1000_0 rec v11 s1000=some r):stepO pr c52_0 (St52_0 a1 a2 c1000_0 rec v11) (Ex52_0 a1 a2 c1000_0 rec v11) s1000 r:=by
 unfold s52_0 at h
 rcases cond_split h with ⟨h57,h⟩ | ⟨h57,h⟩
 ·obtain ⟨v58,h59,h⟩:=obind_some h
  obtain ⟨v60,h61,h⟩:=obind_some h
  obtain ⟨v62,h63,h⟩:=obind_some h
  have wh63:callIso pr (X pr) 77 [.list false 1 [sl 1 vint v58,sl 1 vint v60]]=some (sl 1 vint v62.1,v62.2):=W77 h63
  rcases cond_split h with ⟨h64,h⟩ | ⟨h64,h⟩
  ·obtain ⟨v65,h66,h⟩:=obind_some h
   have wh66:callIso pr (X pr) 76 [sl 2 vpair a2]=some (.list true 0 [],false):=WE76n h66
   obtain ⟨v67,h68,h⟩:=obind_some h
   obtain ⟨v69,h70,h⟩:=obind_some h
   have wh70:callFn pr (X pr) 52 [.ptr 0 0,sl 1 vint v62.1,.list false 2 [.agg [.int .i64 v11,.int .i64 v67]]] [.cells [(sl 2 vunit c1000_0,false),(sl 2 vpair s1000.2.1,s1000.2.2.2.2),(.int .i64 s1000.2.2.1,false),(.bool s1000.2.2.2.1,false)]]=some (.tup [],false,[.cells [(sl 2 vunit c1000_0,false),(sl 2 vpair v69.1,v69.2.2.2),(.int .i64 v69.2.1,false),(.bool v69.2.2.1,false)]]):=hrec h70
   cases h
   exact stepO_in (st':=⟨[(0,.ptr 0 0,false),(1,sl 1 vint a1,false),(2,sl 2 vpair a2,false),(7,.int .i64 v11,false),(8,.int .i64 (wrapF .i64 (s1000.1 + 1)),false)],[.cells [(sl 2 vunit c1000_0,false),(sl 2 vpair v69.1,v69.2.2.2),(.int .i64 v69.2.1,false),(.bool v69.2.2.1,false)]]⟩) (by simp only [go_sem,seval,c52_0,St52_0,h57,slCut_lh h59,slCut_l h61,wh63,h64,wh66,idxR_O h68,wh70] <;> rfl) (gc_same (Nat.le_refl _))
  ·obtain ⟨v71,h72,h⟩:=obind_some h
   have wh72:callIso pr (X pr) 76 [sl 2 vpair a2]=some (sl 2 vpair v71,true):=WE76 h72
   obtain ⟨v73,h74,h⟩:=obind_some h
   obtain ⟨v75,h76,h⟩:=obind_some h
   obtain ⟨v77,h78,h⟩:=obind_some h
   have wh78:callFn pr (X pr) 52 [.ptr 0 0,sl 1 vint v62.1,sl 2 vpair v75] [.cells [(sl 2 vunit c1000_0,false),(sl 2 vpair s1000.2.1,s1000.2.2.2.2),(.int .i64 s1000.2.2.1,false),(.bool s1000.2.2.2.1,false)]]=some (.tup [],false,[.cells [(sl 2 vunit c1000_0,false),(sl 2 vpair v77.1,v77.2.2.2),(.int .i64 v77.2.1,false),(.bool v77.2.2.1,false)]]):=hrec h78
   cases h
   exact stepO_in (st':=⟨[(0,.ptr 0 0,false),(1,sl 1 vint a1,false),(2,sl 2 vpair a2,false),(7,.int .i64 v11,false),(8,.int .i64 (wrapF .i64 (s1000.1 + 1)),false)],[.cells [(sl 2 vunit c1000_0,false),(sl 2 vpair v77.1,v77.2.2.2),(.int .i64 v77.2.1,false),(.bool v77.2.2.1,false)]]⟩) (by simp only [go_sem,seval,c52_0,St52_0,h57,slCut_lh h59,slCut_l h61,wh63,h64,wh72,idxR_O h74,app_vpair_O h76,wh78] <;> rfl) (gc_same (Nat.le_refl _))
 ·cases h
  exact stepO_out (by simp only [go_sem,seval,c52_0,St52_0,h57,Ex52_0] <;> rfl)
theorem l52_0 (a1:Option (List Int)) (a2:Option (List GPair)) (c1000_0:Option (List GUnit)) (rec:(Option (List Int))→(Option (List GPair))→(Option (List GUnit))→(Option (List GPair))→Bool→Int→Bool→Option ((Option (List GPair)) × Int × Bool × Bool)) (v11:Int) (hrec:∀ {a1:Option (List Int)} {a2:Option (List GPair)} {c1000_0:Option (List GUnit)} {c1000_1:Option (List GPair)} {o0_1:Bool} {c1000_2:Int} {c1000_3:Bool} {r},rec a1 a2 c1000_0 c1000_1 o0_1 c1000_2 c1000_3=some r→callFn pr (X pr) 52 [.ptr 0 0,sl 1 vint a1,sl 2 vpair a2] [.cells [(sl 2 vunit c1000_0,false),(sl 2 vpair c1000_1,o0_1),(.int .i64 c1000_2,false),(.bool c1000_3,false)]]=some (.tup [],false,[.cells [(sl 2 vunit c1000_0,false),(sl 2 vpair r.1,r.2.2.2),(.int .i64 r.2.1,false),(.bool r.2.2.1,false)]])) {s1000:Int × (Option (List GPair)) × Int × Bool × Bool} {d} (h:itO (s52_0 a1 a2 c1000_0 rec v11) s1000=some d):X pr (.loop c52_0) (St52_0 a1 a2 c1000_0 rec v11 s1000)=some (Ex52_0 a1 a2 c1000_0 rec v11 d):=X_itO (b52_0 a1 a2 c1000_0 rec v11 hrec) (fun d hh=>by cases hh) h
noncomputable def s52_0b (a1:Option (List Int)) (a2:Option (List GPair)) (c1000_0:Option (List GUnit)) (rec:(Option (List Int))→(Option (List GPair))→(Option (List GUnit))→(Option (List GPair))→Bool→Int→Bool→Option ((Option (List GPair)) × Int × Bool × Bool)) (v87:Int) (s1000:Int × (Option (List GPair)) × Int × Bool × Bool):Option ((Int × (Option (List GPair)) × Int × Bool × Bool) ⊕ ((Int × (Option (List GPair)) × Bool × Int × Bool))):=
 cond (decide (s1000.1 < ((a1.getD []).length:Int)))
  (obind (cutSO a1 (some 1) (some s1000.1)) fun v134=>
  obind (cutSO a1 (some (wrapF .i64 (s1000.1 + 1))) none) fun v136=>
  obind (f77 (some [v134,v136])) fun v138=>
  cond a2.isNone
   (obind (E76n a2) fun v141=>
   obind (idxO (a1.getD []) s1000.1) fun v143=>
   obind (rec v138.1 (some [⟨v87,v143⟩]) c1000_0 s1000.2.1 s1000.2.2.2.2 s1000.2.2.1 s1000.2.2.2.1) fun v145=>
   some (.inl (wrapF .i64 (s1000.1 + 1),v145.1,v145.2.1,v145.2.2.1,v145.2.2.2)))
   (obind (E76 a2) fun v147=>
   obind (idxO (a1.getD []) s1000.1) fun v149=>
   obind (apO v147 [⟨v87,v149⟩]) fun v151=>
   obind (rec v138.1 v151 c1000_0 s1000.2.1 s1000.2.2.2.2 s1000.2.2.1 s1000.2.2.2.1) fun v153=>
   some (.inl (wrapF .i64 (s1000.1 + 1),v153.1,v153.2.1,v153.2.2.1,v153.2.2.2))))
  (some (.inr (s1000.1,s1000.2.1,s1000.2.2.2.2,s1000.2.2.1,s1000.2.2.2.1)))
def St52_0b (a1:Option (List Int)) (a2:Option (List GPair)) (c1000_0:Option (List GUnit)) (rec:(Option (List Int))→(Option (List GPair))→(Option (List GUnit))→(Option (List GPair))→Bool→Int→Bool→Option ((Option (List GPair)) × Int × Bool × Bool)) (v87:Int) (s1000:Int × (Option (List GPair)) × Int × Bool × Bool):ASt:=⟨[(0,.ptr 0 0,false),(1,sl 1 vint a1,false),(2,sl 2 vpair a2,false),(7,.int .i64 v87,false),(8,.int .i64 s1000.1,false)],[.cells [(sl 2 vunit c1000_0,false),(sl 2 vpair s1000.2.1,s1000.2.2.2.2),(.int .i64 s1000.2.2.1,false),(.bool s1000.2.2.2.1,false)]]⟩
def Ex52_0b (a1:Option (List Int)) (a2:Option (List GPair)) (c1000_0:Option (List GUnit)) (rec:(Option (List Int))→(Option (List GPair))→(Option (List GUnit))→(Option (List GPair))→Bool→Int→Bool→Option ((Option (List GPair)) × Int × Bool × Bool)) (v87:Int) (d:(Int × (Option (List GPair)) × Bool × Int × Bool)):AExit × ASt:=(.exit 0,⟨[(0,.ptr 0 0,false),(1,sl 1 vint a1,false),(2,sl 2 vpair a2,false),(7,.int .i64 v87,false),(8,.int .i64 d.1,false),(49,.bool false,false)],[.cells [(sl 2 vunit c1000_0,false),(sl 2 vpair d.2.1,d.2.2.1),(.int .i64 d.2.2.2.1,false),(.bool d.2.2.2.2,false)]]⟩)
theorem b52_0b (a1:Option (List Int)) (a2:Option (List GPair)) (c1000_0:Option (List GUnit)) (rec:(Option (List Int))→(Option (List GPair))→(Option (List GUnit))→(Option (List GPair))→Bool→Int→Bool→Option ((Option (List GPair)) × Int × Bool × Bool)) (v87:Int) (hrec:∀ {a1:Option (List Int)} {a2:Option (List GPair)} {c1000_0:Option (List GUnit)} {c1000_1:Option (List GPair)} {o0_1:Bool} {c1000_2:Int} {c1000_3:Bool} {r},rec a1 a2 c1000_0 c1000_1 o0_1 c1000_2 c1000_3=some r→callFn pr (X pr) 52 [.ptr 0 0,sl 1 vint a1,sl 2 vpair a2] [.cells [(sl 2 vunit c1000_0,false),(sl 2 vpair c1000_1,o0_1),(.int .i64 c1000_2,false),(.bool c1000_3,false)]]=some (.tup [],false,[.cells [(sl 2 vunit c1000_0,false),(sl 2 vpair r.1,r.2.2.2),(.int .i64 r.2.1,false),(.bool r.2.2.1,false)]])) (s1000:Int × (Option (List GPair)) × Int × Bool × Bool) (r) (h:s52_0b a1 a2 c1000_0 rec v87 s1000=some r):stepO pr c52_0 (St52_0b a1 a2 c1000_0 rec v87) (Ex52_0b a1 a2 c1000_0 rec v87) s1000 r:=by
 unfold s52_0b at h
 rcases cond_split h with ⟨h133,h⟩ | ⟨h133,h⟩
 ·obtain ⟨v134,h135,h⟩:=obind_some h
  obtain ⟨v136,h137,h⟩:=obind_some h
  obtain ⟨v138,h139,h⟩:=obind_some h
  have wh139:callIso pr (X pr) 77 [.list false 1 [sl 1 vint v134,sl 1 vint v136]]=some (sl 1 vint v138.1,v138.2):=W77 h139
  rcases cond_split h with ⟨h140,h⟩ | ⟨h140,h⟩
  ·obtain ⟨v141,h142,h⟩:=obind_some h
   have wh142:callIso pr (X pr) 76 [sl 2 vpair a2]=some (.list true 0 [],false):=WE76n h142
   obtain ⟨v143,h144,h⟩:=obind_some h
   obtain ⟨v145,h146,h⟩:=obind_some h
   have wh146:callFn pr (X pr) 52 [.ptr 0 0,sl 1 vint v138.1,.list false 2 [.agg [.int .i64 v87,.int .i64 v143]]] [.cells [(sl 2 vunit c1000_0,false),(sl 2 vpair s1000.2.1,s1000.2.2.2.2),(.int .i64 s1000.2.2.1,false),(.bool s1000.2.2.2.1,false)]]=some (.tup [],false,[.cells [(sl 2 vunit c1000_0,false),(sl 2 vpair v145.1,v145.2.2.2),(.int .i64 v145.2.1,false),(.bool v145.2.2.1,false)]]):=hrec h146
   cases h
   exact stepO_in (st':=⟨[(0,.ptr 0 0,false),(1,sl 1 vint a1,false),(2,sl 2 vpair a2,false),(7,.int .i64 v87,false),(8,.int .i64 (wrapF .i64 (s1000.1 + 1)),false)],[.cells [(sl 2 vunit c1000_0,false),(sl 2 vpair v145.1,v145.2.2.2),(.int .i64 v145.2.1,false),(.bool v145.2.2.1,false)]]⟩) (by simp only [go_sem,seval,c52_0,St52_0b,h133,slCut_lh h135,slCut_l h137,wh139,h140,wh142,idxR_O h144,wh146] <;> rfl) (gc_same (Nat.le_refl _))
  ·obtain ⟨v147,h148,h⟩:=obind_some h
   have wh148:callIso pr (X pr) 76 [sl 2 vpair a2]=some (sl 2 vpair v147,true):=WE76 h148
   obtain ⟨v149,h150,h⟩:=obind_some h
   obtain ⟨v151,h152,h⟩:=obind_some h
   obtain ⟨v153,h154,h⟩:=obind_some h
   have wh154:callFn pr (X pr) 52 [.ptr 0 0,sl 1 vint v138.1,sl 2 vpair v151] [.cells [(sl 2 vunit c1000_0,false),(sl 2 vpair s1000.2.1,s1000.2.2.2.2),(.int .i64 s1000.2.2.1,false),(.bool s1000.2.2.2.1,false)]]=some (.tup [],false,[.cells [(sl 2 vunit c1000_0,false),(sl 2 vpair v153.1,v153.2.2.2),(.int .i64 v153.2.1,false),(.bool v153.2.2.1,false)]]):=hrec h154
   cases h
   exact stepO_in (st':=⟨[(0,.ptr 0 0,false),(1,sl 1 vint a1,false),(2,sl 2 vpair a2,false),(7,.int .i64 v87,false),(8,.int .i64 (wrapF .i64 (s1000.1 + 1)),false)],[.cells [(sl 2 vunit c1000_0,false),(sl 2 vpair v153.1,v153.2.2.2),(.int .i64 v153.2.1,false),(.bool v153.2.2.1,false)]]⟩) (by simp only [go_sem,seval,c52_0,St52_0b,h133,slCut_lh h135,slCut_l h137,wh139,h140,wh148,idxR_O h150,app_vpair_O h152,wh154] <;> rfl) (gc_same (Nat.le_refl _))
 ·cases h
  exact stepO_out (by simp only [go_sem,seval,c52_0,St52_0b,h133,Ex52_0b] <;> rfl)
theorem l52_0b (a1:Option (List Int)) (a2:Option (List GPair)) (c1000_0:Option (List GUnit)) (rec:(Option (List Int))→(Option (List GPair))→(Option (List GUnit))→(Option (List GPair))→Bool→Int→Bool→Option ((Option (List GPair)) × Int × Bool × Bool)) (v87:Int) (hrec:∀ {a1:Option (List Int)} {a2:Option (List GPair)} {c1000_0:Option (List GUnit)} {c1000_1:Option (List GPair)} {o0_1:Bool} {c1000_2:Int} {c1000_3:Bool} {r},rec a1 a2 c1000_0 c1000_1 o0_1 c1000_2 c1000_3=some r→callFn pr (X pr) 52 [.ptr 0 0,sl 1 vint a1,sl 2 vpair a2] [.cells [(sl 2 vunit c1000_0,false),(sl 2 vpair c1000_1,o0_1),(.int .i64 c1000_2,false),(.bool c1000_3,false)]]=some (.tup [],false,[.cells [(sl 2 vunit c1000_0,false),(sl 2 vpair r.1,r.2.2.2),(.int .i64 r.2.1,false),(.bool r.2.2.1,false)]])) {s1000:Int × (Option (List GPair)) × Int × Bool × Bool} {d} (h:itO (s52_0b a1 a2 c1000_0 rec v87) s1000=some d):X pr (.loop c52_0) (St52_0b a1 a2 c1000_0 rec v87 s1000)=some (Ex52_0b a1 a2 c1000_0 rec v87 d):=X_itO (b52_0b a1 a2 c1000_0 rec v87 hrec) (fun d hh=>by cases hh) h
noncomputable def F52 (rec:(Option (List Int))→(Option (List GPair))→(Option (List GUnit))→(Option (List GPair))→Bool→Int→Bool→Option ((Option (List GPair)) × Int × Bool × Bool)) (a1:Option (List Int)) (a2:Option (List GPair)) (c1000_0:Option (List GUnit)) (c1000_1:Option (List GPair)) (o0_1:Bool) (c1000_2:Int) (c1000_3:Bool):Option ((Option (List GPair)) × Int × Bool × Bool):=
 obind (f75 c1000_0 a2) fun v1=>
 cond c1000_3
  (cond (decide (c1000_2≤v1))
   (some (c1000_1,c1000_2,true,o0_1))
   (cond (decide (((a1.getD []).length:Int)=0))
    (cond a2.isNone
     (obind (E76n a2) fun v7=>
     some (none,v1,true,false))
     (obind (E76 a2) fun v9=>
     some (v9,v1,true,true)))
    (obind (idxO (a1.getD []) 0) fun v11=>
    obind (itO (s52_0 a1 a2 c1000_0 rec v11) (1,c1000_1,c1000_2,true,o0_1)) fun d79=>
    some (d79.2.1,d79.2.2.2.1,d79.2.2.2.2,d79.2.2.1))))
  (cond (decide (((a1.getD []).length:Int)=0))
   (cond a2.isNone
    (obind (E76n a2) fun v83=>
    some (none,v1,true,false))
    (obind (E76 a2) fun v85=>
    some (v85,v1,true,true)))
   (obind (idxO (a1.getD []) 0) fun v87=>
   obind (itO (s52_0b a1 a2 c1000_0 rec v87) (1,c1000_1,c1000_2,false,o0_1)) fun d155=>
   some (d155.2.1,d155.2.2.2.1,d155.2.2.2.2,d155.2.2.1)))
theorem WF111 {rec:(Option (List Int))→(Option (List GPair))→(Option (List GUnit))→(Option (List GPair))→Bool→Int→Bool→Option ((Option (List GPair)) × Int × Bool × Bool)} (hrec:∀ {a1:Option (List Int)} {a2:Option (List GPair)} {c1000_0:Option (List GUnit)} {c1000_1:Option (List GPair)} {o0_1:Bool} {c1000_2:Int} {c1000_3:Bool} {r},rec a1 a2 c1000_0 c1000_1 o0_1 c1000_2 c1000_3=some r→callFn pr (X pr) 52 [.ptr 0 0,sl 1 vint a1,sl 2 vpair a2] [.cells [(sl 2 vunit c1000_0,false),(sl 2 vpair c1000_1,o0_1),(.int .i64 c1000_2,false),(.bool c1000_3,false)]]=some (.tup [],false,[.cells [(sl 2 vunit c1000_0,false),(sl 2 vpair r.1,r.2.2.2),(.int .i64 r.2.1,false),(.bool r.2.2.1,false)]])) {a1:Option (List Int)} {a2:Option (List GPair)} {c1000_0:Option (List GUnit)} {c1000_1:Option (List GPair)} {o0_1:Bool} {c1000_2:Int} {c1000_3:Bool} {r} (h:F52 rec a1 a2 c1000_0 c1000_1 o0_1 c1000_2 c1000_3=some r):callFn pr (X pr) 52 [.ptr 0 0,sl 1 vint a1,sl 2 vpair a2] [.cells [(sl 2 vunit c1000_0,false),(sl 2 vpair c1000_1,o0_1),(.int .i64 c1000_2,false),(.bool c1000_3,false)]]=some (.tup [],false,[.cells [(sl 2 vunit c1000_0,false),(sl 2 vpair r.1,r.2.2.2),(.int .i64 r.2.1,false),(.bool r.2.2.1,false)]]):=by
 unfold F52 at h
 obtain ⟨v1,h2,h⟩:=obind_some h
 have wh2:callIso pr (X pr) 75 [sl 2 vunit c1000_0,sl 2 vpair a2]=some (.int .i64 v1,false):=W75 h2
 rcases cond_split h with ⟨h3,h⟩ | ⟨h3,h⟩
 ·rcases cond_split h with ⟨h4,h⟩ | ⟨h4,h⟩
  ·have hr:(c1000_1,c1000_2,true,o0_1)=r:=Option.some.inj h
   subst hr
   rw [callFn_at (show pr.fns 52=some c52 from rfl) (by simp)]
   simp only [go_sem,seval,c52,wh2,h3,h4] <;> rfl
  ·rcases cond_split h with ⟨h5,h⟩ | ⟨h5,h⟩
   ·rcases cond_split h with ⟨h6,h⟩ | ⟨h6,h⟩
    ·obtain ⟨v7,h8,h⟩:=obind_some h
     have wh8:callIso pr (X pr) 76 [sl 2 vpair a2]=some (.list true 0 [],false):=WE76n h8
     have hr:(none,v1,true,false)=r:=Option.some.inj h
     subst hr
     rw [callFn_at (show pr.fns 52=some c52 from rfl) (by simp)]
     simp only [go_sem,seval,c52,wh2,h3,h4,h5,h6,wh8] <;> rfl
    ·obtain ⟨v9,h10,h⟩:=obind_some h
     have wh10:callIso pr (X pr) 76 [sl 2 vpair a2]=some (sl 2 vpair v9,true):=WE76 h10
     have hr:(v9,v1,true,true)=r:=Option.some.inj h
     subst hr
     rw [callFn_at (show pr.fns 52=some c52 from rfl) (by simp)]
     simp only [go_sem,seval,c52,wh2,h3,h4,h5,h6,wh10] <;> rfl
   ·obtain ⟨v11,h12,h⟩:=obind_some h
    obtain ⟨d79,h80,h⟩:=obind_some h
    have wh80:X pr (.loop c52_0) ⟨[(0,.ptr 0 0,false),(1,sl 1 vint a1,false),(2,sl 2 vpair a2,false),(7,.int .i64 v11,false),(8,.int .i64 1,false)],[.cells [(sl 2 vunit c1000_0,false),(sl 2 vpair c1000_1,o0_1),(.int .i64 c1000_2,false),(.bool true,false)]]⟩=some (.exit 0,⟨[(0,.ptr 0 0,false),(1,sl 1 vint a1,false),(2,sl 2 vpair a2,false),(7,.int .i64 v11,false),(8,.int .i64 d79.1,false),(49,.bool false,false)],[.cells [(sl 2 vunit c1000_0,false),(sl 2 vpair d79.2.1,d79.2.2.1),(.int .i64 d79.2.2.2.1,false),(.bool d79.2.2.2.2,false)]]⟩):=l52_0 a1 a2 c1000_0 rec v11 hrec h80
    have hr:(d79.2.1,d79.2.2.2.1,d79.2.2.2.2,d79.2.2.1)=r:=Option.some.inj h
    subst hr
    rw [callFn_at (show pr.fns 52=some c52 from rfl) (by simp)]
    simp only [go_sem,seval,c52,wh2,h3,h4,h5,idxR_O h12,wh80] <;> rfl
 ·rcases cond_split h with ⟨h81,h⟩ | ⟨h81,h⟩
  ·rcases cond_split h with ⟨h82,h⟩ | ⟨h82,h⟩
   ·obtain ⟨v83,h84,h⟩:=obind_some h
    have wh84:callIso pr (X pr) 76 [sl 2 vpair a2]=some (.list true 0 [],false):=WE76n h84
    have hr:(none,v1,true,false)=r:=Option.some.inj h
    subst hr
    rw [callFn_at (show pr.fns 52=some c52 from rfl) (by simp)]
    simp only [go_sem,seval,c52,wh2,h3,h81,h82,wh84] <;> rfl
   ·obtain ⟨v85,h86,h⟩:=obind_some h
    have wh86:callIso pr (X pr) 76 [sl 2 vpair a2]=some (sl 2 vpair v85,true):=WE76 h86
    have hr:(v85,v1,true,true)=r:=Option.some.inj h
    subst hr
    rw [callFn_at (show pr.fns 52=some c52 from rfl) (by simp)]
    simp only [go_sem,seval,c52,wh2,h3,h81,h82,wh86] <;> rfl
  ·obtain ⟨v87,h88,h⟩:=obind_some h
   obtain ⟨d155,h156,h⟩:=obind_some h
   have wh156:X pr (.loop c52_0) ⟨[(0,.ptr 0 0,false),(1,sl 1 vint a1,false),(2,sl 2 vpair a2,false),(7,.int .i64 v87,false),(8,.int .i64 1,false)],[.cells [(sl 2 vunit c1000_0,false),(sl 2 vpair c1000_1,o0_1),(.int .i64 c1000_2,false),(.bool false,false)]]⟩=some (.exit 0,⟨[(0,.ptr 0 0,false),(1,sl 1 vint a1,false),(2,sl 2 vpair a2,false),(7,.int .i64 v87,false),(8,.int .i64 d155.1,false),(49,.bool false,false)],[.cells [(sl 2 vunit c1000_0,false),(sl 2 vpair d155.2.1,d155.2.2.1),(.int .i64 d155.2.2.2.1,false),(.bool d155.2.2.2.2,false)]]⟩):=l52_0b a1 a2 c1000_0 rec v87 hrec h156
   have hr:(d155.2.1,d155.2.2.2.1,d155.2.2.2.2,d155.2.2.1)=r:=Option.some.inj h
   subst hr
   rw [callFn_at (show pr.fns 52=some c52 from rfl) (by simp)]
   simp only [go_sem,seval,c52,wh2,h3,h81,idxR_O h88,wh156] <;> rfl
noncomputable def f52:Nat→(Option (List Int))→(Option (List GPair))→(Option (List GUnit))→(Option (List GPair))→Bool→Int→Bool→Option ((Option (List GPair)) × Int × Bool × Bool)
 | 0=>fun _ _ _ _ _ _ _=>none
 | n + 1=>F52 (f52 n)
theorem W52:∀ (n:Nat) {a1:Option (List Int)} {a2:Option (List GPair)} {c1000_0:Option (List GUnit)} {c1000_1:Option (List GPair)} {o0_1:Bool} {c1000_2:Int} {c1000_3:Bool} {r} (h:f52 n a1 a2 c1000_0 c1000_1 o0_1 c1000_2 c1000_3=some r),callFn pr (X pr) 52 [.ptr 0 0,sl 1 vint a1,sl 2 vpair a2] [.cells [(sl 2 vunit c1000_0,false),(sl 2 vpair c1000_1,o0_1),(.int .i64 c1000_2,false),(.bool c1000_3,false)]]=some (.tup [],false,[.cells [(sl 2 vunit c1000_0,false),(sl 2 vpair r.1,r.2.2.2),(.int .i64 r.2.1,false),(.bool r.2.2.1,false)]])
 | 0,_,_,_,_,_,_,_,_,h=>by cases h
 | n + 1,_,_,_,_,_,_,_,_,h=>WF111 (W52 n) h
end Go.Z
/-
 Pairs: functions that mirror the runs,and the runs,third part (printed by walk.py).
-/
namespace Go.Z
open Go Go.Abs
noncomputable def f15 (a0:Option (List GUnit)):Option ((Option (List GPair)) × Int × Int):=
 obind (E1022 a0) fun v1=>
 obind (remO ((a0.getD []).length:Int) 2) fun v3=>
 obind (E57 (!decide (v3=0)) 35) fun v5=>
 obind (E57 (decide (8 < ((a0.getD []).length:Int))) 23) fun v7=>
 obind (E17 (some [v1,v5,v7])) fun v9=>
 cond (decide (v9=0))
  (obind (f53 a0) fun v12=>
  obind (f52 10 v12.1 none a0 none false 0 false) fun v14=>
  some (v14.1,v14.2.1,0))
  (some (none,0,v9))
theorem W15 {a0:Option (List GUnit)} {r} (h:f15 a0=some r):callIso pr (X pr) 15 [sl 2 vunit a0]=some (.tup [sl 2 vpair r.1,.int .i64 r.2.1,.int .i64 r.2.2],false):=by
 unfold f15 at h
 obtain ⟨v1,h2,h⟩:=obind_some h
 have wh2:callIso pr (X pr) 32 [sl 2 vunit a0]=some (.int .i64 v1,false):=WE32 h2
 obtain ⟨v3,h4,h⟩:=obind_some h
 obtain ⟨v5,h6,h⟩:=obind_some h
 have wh6:callIso pr (X pr) 43 [.bool (!decide (v3=0)),.int .i64 35]=some (.int .i64 v5,false):=WE43 h6
 obtain ⟨v7,h8,h⟩:=obind_some h
 have wh8:callIso pr (X pr) 43 [.bool (decide (8 < ((a0.getD []).length:Int))),.int .i64 23]=some (.int .i64 v7,false):=WE43 h8
 obtain ⟨v9,h10,h⟩:=obind_some h
 have wh10:callIso pr (X pr) 41 [.list false 1 [.int .i64 v1,.int .i64 v5,.int .i64 v7]]=some (.int .i64 v9,false):=WE41 h10
 rcases cond_split h with ⟨h11,h⟩ | ⟨h11,h⟩
 ·obtain ⟨v12,h13,h⟩:=obind_some h
  have wh13:callIso pr (X pr) 53 [sl 2 vunit a0]=some (sl 1 vint v12.1,v12.2):=W53 h13
  obtain ⟨v14,h15,h⟩:=obind_some h
  have wh15:callFn pr (X pr) 52 [.ptr 0 0,sl 1 vint v12.1,.list true 0 []] [.cells [(sl 2 vunit a0,false),(.list true 0 [],false),(.int .i64 0,false),(.bool false,false)]]=some (.tup [],false,[.cells [(sl 2 vunit a0,false),(sl 2 vpair v14.1,v14.2.2.2),(.int .i64 v14.2.1,false),(.bool v14.2.2.1,false)]]):=W52 10 h15
  have hr:(v14.1,v14.2.1,0)=r:=Option.some.inj h
  subst hr
  have this:∃ hh,callFn pr (X pr) 15 [sl 2 vunit a0] []=some (.tup [sl 2 vpair v14.1,.int .i64 v14.2.1,.int .i64 0],false,hh):=by
   rw [callFn_at (show pr.fns 15=some c15 from rfl) (by simp)]
   simp only [go_sem,seval,c15,wh2,b_rem_O h4,wh6,wh8,wh10,h11,wh13,wh15]
   exact ⟨_,rfl⟩
  obtain ⟨hh,this⟩:=this
  exact callIso_of rfl this (by first | rfl | simp only [go_sem,seval]) (by first | rfl | simp only [go_sem,seval])
 ·have hr:(none,0,v9)=r:=Option.some.inj h
  subst hr
  have this:∃ hh,callFn pr (X pr) 15 [sl 2 vunit a0] []=some (.tup [.list true 0 [],.int .i64 0,.int .i64 v9],false,hh):=by
   rw [callFn_at (show pr.fns 15=some c15 from rfl) (by simp)]
   simp only [go_sem,seval,c15,wh2,b_rem_O h4,wh6,wh8,wh10,h11]
   exact ⟨_,rfl⟩
  obtain ⟨hh,this⟩:=this
  exact callIso_of rfl this (by first | rfl | simp only [go_sem,seval]) (by first | rfl | simp only [go_sem,seval])
end Go.Z
