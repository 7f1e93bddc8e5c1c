/-
  Pairs: functions that mirror the runs, and the runs, third part (printed by walk.py).
-/
import Derived.Test.YtbkpojiedkhfkaaGreatR1
import Derived.Test.YtbkpojiedkhfkaaGreatG0m
set_option linter.unusedVariables false
set_option linter.unusedSimpArgs false
set_option maxRecDepth 100000
set_option maxHeartbeats 4000000
namespace Go.Z
open Go Go.Abs
noncomputable def f56 (a0:Option (List GUnit)):Option ((Option (List GPair)) × Int × Int):=
 obind (E22 a0) fun v1=>
 obind (remO ((a0.getD []).length:Int) 2) fun v3=>
 obind (E24 (!decide (v3=0)) 35) fun v5=>
 obind (E24 (decide (8 < ((a0.getD []).length:Int))) 23) fun v7=>
 obind (E94 (some [v1,v5,v7])) fun v9=>
 cond (decide (v9=0))
  (obind (f112 a0) fun v12=>
  obind (f111 10 v12.1 none a0 none false 0 false) fun v14=>
  some (v14.1,v14.2.1,0))
  (some (none,0,v9))
theorem W56 {a0:Option (List GUnit)} {r} (h:f56 a0=some r):callIso pr (X pr) 56 [sl 2 vunit a0]=some (.tup [sl 2 vpair r.1,.int .i64 r.2.1,.int .i64 r.2.2],false):=by
 unfold f56 at h
 obtain ⟨v1,h2,h⟩:=obind_some h
 have wh2:callIso pr (X pr) 28 [sl 2 vunit a0]=some (.int .i64 v1,false):=WE28 h2
 obtain ⟨v3,h4,h⟩:=obind_some h
 obtain ⟨v5,h6,h⟩:=obind_some h
 have wh6:callIso pr (X pr) 89 [.bool (!decide (v3=0)),.int .i64 35]=some (.int .i64 v5,false):=WE89 h6
 obtain ⟨v7,h8,h⟩:=obind_some h
 have wh8:callIso pr (X pr) 89 [.bool (decide (8 < ((a0.getD []).length:Int))),.int .i64 23]=some (.int .i64 v7,false):=WE89 h8
 obtain ⟨v9,h10,h⟩:=obind_some h
 have wh10:callIso pr (X pr) 87 [.list false 1 [.int .i64 v1,.int .i64 v5,.int .i64 v7]]=some (.int .i64 v9,false):=WE87 h10
 rcases cond_split h with ⟨h11,h⟩ | ⟨h11,h⟩
 ·obtain ⟨v12,h13,h⟩:=obind_some h
  have wh13:callIso pr (X pr) 112 [sl 2 vunit a0]=some (sl 1 vint v12.1,v12.2):=W112 h13
  obtain ⟨v14,h15,h⟩:=obind_some h
  have wh15:callFn pr (X pr) 111 [.ptr 0 0,sl 1 vint v12.1,.list true 0 []] [.cells [(sl 2 vunit a0,false),(.list true 0 [],false),(.int .i64 0,false),(.bool false,false)]]=some (.tup [],false,[.cells [(sl 2 vunit a0,false),(sl 2 vpair v14.1,v14.2.2.2),(.int .i64 v14.2.1,false),(.bool v14.2.2.1,false)]]):=W111 10 h15
  have hr:(v14.1,v14.2.1,0)=r:=Option.some.inj h
  subst hr
  have this:∃ hh,callFn pr (X pr) 56 [sl 2 vunit a0] []=some (.tup [sl 2 vpair v14.1,.int .i64 v14.2.1,.int .i64 0],false,hh):=by
   rw [callFn_at (show pr.fns 56=some c56 from rfl) (by simp)]
   simp only [go_sem,seval,c56,wh2,b_rem_O h4,wh6,wh8,wh10,h11,wh13,wh15]
   exact ⟨_,rfl⟩
  obtain ⟨hh,this⟩:=this
  exact callIso_of rfl this (by first | rfl | simp only [go_sem,seval]) (by first | rfl | simp only [go_sem,seval])
 ·have hr:(none,0,v9)=r:=Option.some.inj h
  subst hr
  have this:∃ hh,callFn pr (X pr) 56 [sl 2 vunit a0] []=some (.tup [.list true 0 [],.int .i64 0,.int .i64 v9],false,hh):=by
   rw [callFn_at (show pr.fns 56=some c56 from rfl) (by simp)]
   simp only [go_sem,seval,c56,wh2,b_rem_O h4,wh6,wh8,wh10,h11]
   exact ⟨_,rfl⟩
  obtain ⟨hh,this⟩:=this
  exact callIso_of rfl this (by first | rfl | simp only [go_sem,seval]) (by first | rfl | simp only [go_sem,seval])
noncomputable def f114 (a0:GUnit) (c0_0:Option (List GUnit)) (c1_0:List UInt8) (c1_1:Option (List Int)) (c2_0:List UInt8) (c2_1:Option (List Int)) (c3_0:List UInt8) (c3_1:Option (List Int)):Option Int:=
 obind (f115 (⟨c2_0,c2_1⟩) a0) fun v1=>
 some v1
theorem W114 {a0:GUnit} {c0_0:Option (List GUnit)} {c1_0:List UInt8} {c1_1:Option (List Int)} {c2_0:List UInt8} {c2_1:Option (List Int)} {c3_0:List UInt8} {c3_1:Option (List Int)} {r} (h:f114 a0 c0_0 c1_0 c1_1 c2_0 c2_1 c3_0 c3_1=some r):callFn pr (X pr) 114 [.agg [.str a0.serial,sl 1 vint a0.values],.ptr 2 0] [.cells [(sl 2 vunit c0_0,false)],.cells [(.str c1_0,false),(sl 1 vint c1_1,false)],.cells [(.str c2_0,false),(sl 1 vint c2_1,false)],.cells [(.str c3_0,false),(sl 1 vint c3_1,false)]]=some (.int .i64 r,false,[.cells [(sl 2 vunit c0_0,false)],.cells [(.str c1_0,false),(sl 1 vint c1_1,false)],.cells [(.str c2_0,false),(sl 1 vint c2_1,false)],.cells [(.str c3_0,false),(sl 1 vint c3_1,false)],.cells [(.str a0.serial,false),(sl 1 vint a0.values,false)]]):=by
 unfold f114 at h
 obtain ⟨v1,h2,h⟩:=obind_some h
 have wh2:callIso pr (X pr) 115 [.agg [.str c2_0,sl 1 vint c2_1],.agg [.str a0.serial,sl 1 vint a0.values]]=some (.int .i64 v1,false):=W115 h2
 have hr:v1=r:=Option.some.inj h
 subst hr
 rw [callFn_at (show pr.fns 114=some c114 from rfl) (by simp)]
 simp only [go_sem,seval,c114,wh2] <;> rfl
noncomputable def s90_0b (a0:Option (List GUnit)) (c0_0:Option (List GUnit)) (c1_0:List UInt8) (c1_1:Option (List Int)) (c2_0:List UInt8) (c2_1:Option (List Int)) (s0:(Option (List Int)) × Int × Bool):Option (((Option (List Int)) × Int × Bool) ⊕ (((Option (List Int)) × Bool × Int))):=
 cond (decide (s0.2.1 < ((a0.getD []).length:Int)))
  (obind (idxO (a0.getD []) s0.2.1) fun v18=>
  obind (f114 v18 c0_0 c1_0 c1_1 c2_0 c2_1 v18.serial v18.values) fun v20=>
  cond s0.2.2
   (obind (apO s0.1 [v20]) fun v23=>
   some (.inl (v23,wrapF .i64 (s0.2.1 + 1),true)))
   (cond s0.1.isNone
    (obind (apO s0.1 [v20]) fun v26=>
    some (.inl (v26,wrapF .i64 (s0.2.1 + 1),true)))
    (none)))
  (some (.inr (s0.1,s0.2.2,s0.2.1)))
def St90_0b (a0:Option (List GUnit)) (c0_0:Option (List GUnit)) (c1_0:List UInt8) (c1_1:Option (List Int)) (c2_0:List UInt8) (c2_1:Option (List Int)) (s0:(Option (List Int)) × Int × Bool):ASt:=⟨[(1,.fn (.func 114) [] [.ptr 2 0],false),(5,sl 1 vint s0.1,s0.2.2),(8,sl 2 vunit a0,false),(9,.int .i64 ((a0.getD []).length:Int),false),(10,.int .i64 s0.2.1,false)],[.cells [(sl 2 vunit c0_0,false)],.cells [(.str c1_0,false),(sl 1 vint c1_1,false)],.cells [(.str c2_0,false),(sl 1 vint c2_1,false)]]⟩
def Ex90_0b (a0:Option (List GUnit)) (c0_0:Option (List GUnit)) (c1_0:List UInt8) (c1_1:Option (List Int)) (c2_0:List UInt8) (c2_1:Option (List Int)) (d:((Option (List Int)) × Bool × Int)):AExit × ASt:=(.exit 0,⟨[(1,.fn (.func 114) [] [.ptr 2 0],false),(5,sl 1 vint d.1,d.2.1),(8,sl 2 vunit a0,false),(9,.int .i64 ((a0.getD []).length:Int),false),(10,.int .i64 d.2.2,false),(11,.bool false,false)],[.cells [(sl 2 vunit c0_0,false)],.cells [(.str c1_0,false),(sl 1 vint c1_1,false)],.cells [(.str c2_0,false),(sl 1 vint c2_1,false)]]⟩)
theorem b90_0b (a0:Option (List GUnit)) (c0_0:Option (List GUnit)) (c1_0:List UInt8) (c1_1:Option (List Int)) (c2_0:List UInt8) (c2_1:Option (List Int)) (s0:(Option (List Int)) × Int × Bool) (r) (h:s90_0b a0 c0_0 c1_0 c1_1 c2_0 c2_1 s0=some r):stepO pr c90_0 (St90_0b a0 c0_0 c1_0 c1_1 c2_0 c2_1) (Ex90_0b a0 c0_0 c1_0 c1_1 c2_0 c2_1) s0 r:=by
 unfold s90_0b at h
 rcases cond_split h with ⟨h17,h⟩ | ⟨h17,h⟩
 ·obtain ⟨v18,h19,h⟩:=obind_some h
  obtain ⟨v20,h21,h⟩:=obind_some h
  have wh21:callFn pr (X pr) 114 [.agg [.str v18.serial,sl 1 vint v18.values],.ptr 2 0] [.cells [(sl 2 vunit c0_0,false)],.cells [(.str c1_0,false),(sl 1 vint c1_1,false)],.cells [(.str c2_0,false),(sl 1 vint c2_1,false)],.cells [(.str v18.serial,false),(sl 1 vint v18.values,false)]]=some (.int .i64 v20,false,[.cells [(sl 2 vunit c0_0,false)],.cells [(.str c1_0,false),(sl 1 vint c1_1,false)],.cells [(.str c2_0,false),(sl 1 vint c2_1,false)],.cells [(.str v18.serial,false),(sl 1 vint v18.values,false)],.cells [(.str v18.serial,false),(sl 1 vint v18.values,false)]]):=W114 h21
  rcases cond_split h with ⟨h22,h⟩ | ⟨h22,h⟩
  ·obtain ⟨v23,h24,h⟩:=obind_some h
   cases h
   exact stepO_in (st':=⟨[(1,.fn (.func 114) [] [.ptr 2 0],false),(5,sl 1 vint v23,true),(8,sl 2 vunit a0,false),(9,.int .i64 ((a0.getD []).length:Int),false),(10,.int .i64 (wrapF .i64 (s0.2.1 + 1)),false)],[.cells [(sl 2 vunit c0_0,false)],.cells [(.str c1_0,false),(sl 1 vint c1_1,false)],.cells [(.str c2_0,false),(sl 1 vint c2_1,false)]]++[.cells [(.str v18.serial,false),(sl 1 vint v18.values,false)]]⟩) (by simp only [go_sem,seval,c90_0,St90_0b,h17,idxR_O h19,wh21,h22,app_vint_O h24] <;> rfl) (gc_over rfl rfl (by first | simp only [go_sem,seval,St90_0b] | rfl) (by first | simp only [go_sem,seval,St90_0b] | rfl))
  ·rcases cond_split h with ⟨h25,h⟩ | ⟨h25,h⟩
   ·obtain ⟨v26,h27,h⟩:=obind_some h
    cases h
    exact stepO_in (st':=⟨[(1,.fn (.func 114) [] [.ptr 2 0],false),(5,sl 1 vint v26,true),(8,sl 2 vunit a0,false),(9,.int .i64 ((a0.getD []).length:Int),false),(10,.int .i64 (wrapF .i64 (s0.2.1 + 1)),false)],[.cells [(sl 2 vunit c0_0,false)],.cells [(.str c1_0,false),(sl 1 vint c1_1,false)],.cells [(.str c2_0,false),(sl 1 vint c2_1,false)]]++[.cells [(.str v18.serial,false),(sl 1 vint v18.values,false)]]⟩) (by simp only [go_sem,seval,c90_0,St90_0b,h17,idxR_O h19,wh21,h22,h25,app_vint_N h27 h25] <;> rfl) (gc_over rfl rfl (by first | simp only [go_sem,seval,St90_0b] | rfl) (by first | simp only [go_sem,seval,St90_0b] | rfl))
   ·cases h
 ·cases h
  exact stepO_out (by simp only [go_sem,seval,c90_0,St90_0b,h17,Ex90_0b] <;> rfl)
theorem l90_0b (a0:Option (List GUnit)) (c0_0:Option (List GUnit)) (c1_0:List UInt8) (c1_1:Option (List Int)) (c2_0:List UInt8) (c2_1:Option (List Int)) {s0:(Option (List Int)) × Int × Bool} {d} (h:itO (s90_0b a0 c0_0 c1_0 c1_1 c2_0 c2_1) s0=some d):X pr (.loop c90_0) (St90_0b a0 c0_0 c1_0 c1_1 c2_0 c2_1 s0)=some (Ex90_0b a0 c0_0 c1_0 c1_1 c2_0 c2_1 d):=X_itO (b90_0b a0 c0_0 c1_0 c1_1 c2_0 c2_1) (fun d hh=>by cases hh) h
noncomputable def f90b (a0:Option (List GUnit)) (c0_0:Option (List GUnit)) (c1_0:List UInt8) (c1_1:Option (List Int)) (c2_0:List UInt8) (c2_1:Option (List Int)):Option ((Option (List Int)) × Bool):=
 obind (itO (s90_0b a0 c0_0 c1_0 c1_1 c2_0 c2_1) (none,0,false)) fun d28=>
 some (d28.1,d28.2.1)
theorem W90b {a0:Option (List GUnit)} {c0_0:Option (List GUnit)} {c1_0:List UInt8} {c1_1:Option (List Int)} {c2_0:List UInt8} {c2_1:Option (List Int)} {r} (h:f90b a0 c0_0 c1_0 c1_1 c2_0 c2_1=some r):callFn pr (X pr) 90 [sl 2 vunit a0,.fn (.func 114) [] [.ptr 2 0]] [.cells [(sl 2 vunit c0_0,false)],.cells [(.str c1_0,false),(sl 1 vint c1_1,false)],.cells [(.str c2_0,false),(sl 1 vint c2_1,false)]]=some (sl 1 vint r.1,r.2,[.cells [(sl 2 vunit c0_0,false)],.cells [(.str c1_0,false),(sl 1 vint c1_1,false)],.cells [(.str c2_0,false),(sl 1 vint c2_1,false)]]):=by
 unfold f90b at h
 obtain ⟨d28,h29,h⟩:=obind_some h
 have wh29:X pr (.loop c90_0) ⟨[(1,.fn (.func 114) [] [.ptr 2 0],false),(5,.list true 0 [],false),(8,sl 2 vunit a0,false),(9,.int .i64 ((a0.getD []).length:Int),false),(10,.int .i64 0,false)],[.cells [(sl 2 vunit c0_0,false)],.cells [(.str c1_0,false),(sl 1 vint c1_1,false)],.cells [(.str c2_0,false),(sl 1 vint c2_1,false)]]⟩=some (.exit 0,⟨[(1,.fn (.func 114) [] [.ptr 2 0],false),(5,sl 1 vint d28.1,d28.2.1),(8,sl 2 vunit a0,false),(9,.int .i64 ((a0.getD []).length:Int),false),(10,.int .i64 d28.2.2,false),(11,.bool false,false)],[.cells [(sl 2 vunit c0_0,false)],.cells [(.str c1_0,false),(sl 1 vint c1_1,false)],.cells [(.str c2_0,false),(sl 1 vint c2_1,false)]]⟩):=l90_0b a0 c0_0 c1_0 c1_1 c2_0 c2_1 h29
 have hr:(d28.1,d28.2.1)=r:=Option.some.inj h
 subst hr
 rw [callFn_at (show pr.fns 90=some c90 from rfl) (by simp)]
 simp only [go_sem,seval,c90,wh29] <;> rfl
noncomputable def f113 (a0:GUnit) (c0_0:Option (List GUnit)) (c1_0:List UInt8) (c1_1:Option (List Int)):Option Int:=
 obind (f90b c0_0 c0_0 c1_0 c1_1 a0.serial a0.values) fun v1=>
 obind (E93 v1.1) fun v3=>
 some v3
theorem W113 {a0:GUnit} {c0_0:Option (List GUnit)} {c1_0:List UInt8} {c1_1:Option (List Int)} {r} (h:f113 a0 c0_0 c1_0 c1_1=some r):callFn pr (X pr) 113 [.agg [.str a0.serial,sl 1 vint a0.values],.ptr 0 0] [.cells [(sl 2 vunit c0_0,false)],.cells [(.str c1_0,false),(sl 1 vint c1_1,false)]]=some (.int .i64 r,false,[.cells [(sl 2 vunit c0_0,false)],.cells [(.str c1_0,false),(sl 1 vint c1_1,false)],.cells [(.str a0.serial,false),(sl 1 vint a0.values,false)]]):=by
 unfold f113 at h
 obtain ⟨v1,h2,h⟩:=obind_some h
 have wh2:callFn pr (X pr) 90 [sl 2 vunit c0_0,.fn (.func 114) [] [.ptr 2 0]] [.cells [(sl 2 vunit c0_0,false)],.cells [(.str c1_0,false),(sl 1 vint c1_1,false)],.cells [(.str a0.serial,false),(sl 1 vint a0.values,false)]]=some (sl 1 vint v1.1,v1.2,[.cells [(sl 2 vunit c0_0,false)],.cells [(.str c1_0,false),(sl 1 vint c1_1,false)],.cells [(.str a0.serial,false),(sl 1 vint a0.values,false)]]):=W90b h2
 obtain ⟨v3,h4,h⟩:=obind_some h
 have wh4:callIso pr (X pr) 93 [sl 1 vint v1.1]=some (.int .i64 v3,false):=WE93 h4
 have hr:v3=r:=Option.some.inj h
 subst hr
 rw [callFn_at (show pr.fns 113=some c113 from rfl) (by simp)]
 simp only [go_sem,seval,c113,wh2,wh4] <;> rfl
noncomputable def s90_0a (a0:Option (List GUnit)) (c0_0:Option (List GUnit)) (s0:(Option (List Int)) × Int × Bool):Option (((Option (List Int)) × Int × Bool) ⊕ (((Option (List Int)) × Bool × Int))):=
 cond (decide (s0.2.1 < ((a0.getD []).length:Int)))
  (obind (idxO (a0.getD []) s0.2.1) fun v18=>
  obind (f113 v18 c0_0 v18.serial v18.values) fun v20=>
  cond s0.2.2
   (obind (apO s0.1 [v20]) fun v23=>
   some (.inl (v23,wrapF .i64 (s0.2.1 + 1),true)))
   (cond s0.1.isNone
    (obind (apO s0.1 [v20]) fun v26=>
    some (.inl (v26,wrapF .i64 (s0.2.1 + 1),true)))
    (none)))
  (some (.inr (s0.1,s0.2.2,s0.2.1)))
def St90_0a (a0:Option (List GUnit)) (c0_0:Option (List GUnit)) (s0:(Option (List Int)) × Int × Bool):ASt:=⟨[(1,.fn (.func 113) [] [.ptr 0 0],false),(5,sl 1 vint s0.1,s0.2.2),(8,sl 2 vunit a0,false),(9,.int .i64 ((a0.getD []).length:Int),false),(10,.int .i64 s0.2.1,false)],[.cells [(sl 2 vunit c0_0,false)]]⟩
def Ex90_0a (a0:Option (List GUnit)) (c0_0:Option (List GUnit)) (d:((Option (List Int)) × Bool × Int)):AExit × ASt:=(.exit 0,⟨[(1,.fn (.func 113) [] [.ptr 0 0],false),(5,sl 1 vint d.1,d.2.1),(8,sl 2 vunit a0,false),(9,.int .i64 ((a0.getD []).length:Int),false),(10,.int .i64 d.2.2,false),(11,.bool false,false)],[.cells [(sl 2 vunit c0_0,false)]]⟩)
theorem b90_0a (a0:Option (List GUnit)) (c0_0:Option (List GUnit)) (s0:(Option (List Int)) × Int × Bool) (r) (h:s90_0a a0 c0_0 s0=some r):stepO pr c90_0 (St90_0a a0 c0_0) (Ex90_0a a0 c0_0) s0 r:=by
 unfold s90_0a at h
 rcases cond_split h with ⟨h17,h⟩ | ⟨h17,h⟩
 ·obtain ⟨v18,h19,h⟩:=obind_some h
  obtain ⟨v20,h21,h⟩:=obind_some h
  have wh21:callFn pr (X pr) 113 [.agg [.str v18.serial,sl 1 vint v18.values],.ptr 0 0] [.cells [(sl 2 vunit c0_0,false)],.cells [(.str v18.serial,false),(sl 1 vint v18.values,false)]]=some (.int .i64 v20,false,[.cells [(sl 2 vunit c0_0,false)],.cells [(.str v18.serial,false),(sl 1 vint v18.values,false)],.cells [(.str v18.serial,false),(sl 1 vint v18.values,false)]]):=W113 h21
  rcases cond_split h with ⟨h22,h⟩ | ⟨h22,h⟩
  ·obtain ⟨v23,h24,h⟩:=obind_some h
   cases h
   exact stepO_in (st':=⟨[(1,.fn (.func 113) [] [.ptr 0 0],false),(5,sl 1 vint v23,true),(8,sl 2 vunit a0,false),(9,.int .i64 ((a0.getD []).length:Int),false),(10,.int .i64 (wrapF .i64 (s0.2.1 + 1)),false)],[.cells [(sl 2 vunit c0_0,false)]]++[.cells [(.str v18.serial,false),(sl 1 vint v18.values,false)]]⟩) (by simp only [go_sem,seval,c90_0,St90_0a,h17,idxR_O h19,wh21,h22,app_vint_O h24] <;> rfl) (gc_over rfl rfl (by first | simp only [go_sem,seval,St90_0a] | rfl) (by first | simp only [go_sem,seval,St90_0a] | rfl))
  ·rcases cond_split h with ⟨h25,h⟩ | ⟨h25,h⟩
   ·obtain ⟨v26,h27,h⟩:=obind_some h
    cases h
    exact stepO_in (st':=⟨[(1,.fn (.func 113) [] [.ptr 0 0],false),(5,sl 1 vint v26,true),(8,sl 2 vunit a0,false),(9,.int .i64 ((a0.getD []).length:Int),false),(10,.int .i64 (wrapF .i64 (s0.2.1 + 1)),false)],[.cells [(sl 2 vunit c0_0,false)]]++[.cells [(.str v18.serial,false),(sl 1 vint v18.values,false)]]⟩) (by simp only [go_sem,seval,c90_0,St90_0a,h17,idxR_O h19,wh21,h22,h25,app_vint_N h27 h25] <;> rfl) (gc_over rfl rfl (by first | simp only [go_sem,seval,St90_0a] | rfl) (by first | simp only [go_sem,seval,St90_0a] | rfl))
   ·cases h
 ·cases h
  exact stepO_out (by simp only [go_sem,seval,c90_0,St90_0a,h17,Ex90_0a] <;> rfl)
theorem l90_0a (a0:Option (List GUnit)) (c0_0:Option (List GUnit)) {s0:(Option (List Int)) × Int × Bool} {d} (h:itO (s90_0a a0 c0_0) s0=some d):X pr (.loop c90_0) (St90_0a a0 c0_0 s0)=some (Ex90_0a a0 c0_0 d):=X_itO (b90_0a a0 c0_0) (fun d hh=>by cases hh) h
noncomputable def f90a (a0:Option (List GUnit)) (c0_0:Option (List GUnit)):Option ((Option (List Int)) × Bool):=
 obind (itO (s90_0a a0 c0_0) (none,0,false)) fun d28=>
 some (d28.1,d28.2.1)
theorem W90a {a0:Option (List GUnit)} {c0_0:Option (List GUnit)} {r} (h:f90a a0 c0_0=some r):callFn pr (X pr) 90 [sl 2 vunit a0,.fn (.func 113) [] [.ptr 0 0]] [.cells [(sl 2 vunit c0_0,false)]]=some (sl 1 vint r.1,r.2,[.cells [(sl 2 vunit c0_0,false)]]):=by
 unfold f90a at h
 obtain ⟨d28,h29,h⟩:=obind_some h
 have wh29:X pr (.loop c90_0) ⟨[(1,.fn (.func 113) [] [.ptr 0 0],false),(5,.list true 0 [],false),(8,sl 2 vunit a0,false),(9,.int .i64 ((a0.getD []).length:Int),false),(10,.int .i64 0,false)],[.cells [(sl 2 vunit c0_0,false)]]⟩=some (.exit 0,⟨[(1,.fn (.func 113) [] [.ptr 0 0],false),(5,sl 1 vint d28.1,d28.2.1),(8,sl 2 vunit a0,false),(9,.int .i64 ((a0.getD []).length:Int),false),(10,.int .i64 d28.2.2,false),(11,.bool false,false)],[.cells [(sl 2 vunit c0_0,false)]]⟩):=l90_0a a0 c0_0 h29
 have hr:(d28.1,d28.2.1)=r:=Option.some.inj h
 subst hr
 rw [callFn_at (show pr.fns 90=some c90 from rfl) (by simp)]
 simp only [go_sem,seval,c90,wh29] <;> rfl
noncomputable def f57 (a0:Option (List GUnit)):Option (Int × Int):=
 obind (E22 a0) fun v1=>
 obind (E24 (decide (((a0.getD []).length:Int)=0)) 12) fun v3=>
 obind (E94 (some [v1,v3])) fun v5=>
 cond (decide (v5=0))
  (obind (f90a a0 a0) fun v8=>
  obind (E92 v8.1) fun v10=>
  obind (f116 v8.1 v10) fun v12=>
  some (v12,0))
  (some (0,v5))
theorem W57 {a0:Option (List GUnit)} {r} (h:f57 a0=some r):callIso pr (X pr) 57 [sl 2 vunit a0]=some (.tup [.int .i64 r.1,.int .i64 r.2],false):=by
 unfold f57 at h
 obtain ⟨v1,h2,h⟩:=obind_some h
 have wh2:callIso pr (X pr) 28 [sl 2 vunit a0]=some (.int .i64 v1,false):=WE28 h2
 obtain ⟨v3,h4,h⟩:=obind_some h
 have wh4:callIso pr (X pr) 89 [.bool (decide (((a0.getD []).length:Int)=0)),.int .i64 12]=some (.int .i64 v3,false):=WE89 h4
 obtain ⟨v5,h6,h⟩:=obind_some h
 have wh6:callIso pr (X pr) 87 [.list false 1 [.int .i64 v1,.int .i64 v3]]=some (.int .i64 v5,false):=WE87 h6
 rcases cond_split h with ⟨h7,h⟩ | ⟨h7,h⟩
 ·obtain ⟨v8,h9,h⟩:=obind_some h
  have wh9:callFn pr (X pr) 90 [sl 2 vunit a0,.fn (.func 113) [] [.ptr 0 0]] [.cells [(sl 2 vunit a0,false)]]=some (sl 1 vint v8.1,v8.2,[.cells [(sl 2 vunit a0,false)]]):=W90a h9
  obtain ⟨v10,h11,h⟩:=obind_some h
  have wh11:callIso pr (X pr) 92 [sl 1 vint v8.1]=some (.int .i64 v10,false):=WE92 h11
  obtain ⟨v12,h13,h⟩:=obind_some h
  have wh13:callIso pr (X pr) 116 [sl 1 vint v8.1,.int .i64 v10]=some (.int .i64 v12,false):=W116 h13
  have hr:(v12,0)=r:=Option.some.inj h
  subst hr
  have this:∃ hh,callFn pr (X pr) 57 [sl 2 vunit a0] []=some (.tup [.int .i64 v12,.int .i64 0],false,hh):=by
   rw [callFn_at (show pr.fns 57=some c57 from rfl) (by simp)]
   simp only [go_sem,seval,c57,wh2,wh4,wh6,h7,wh9,wh11,wh13]
   exact ⟨_,rfl⟩
  obtain ⟨hh,this⟩:=this
  exact callIso_of rfl this (by first | rfl | simp only [go_sem,seval]) (by first | rfl | simp only [go_sem,seval])
 ·have hr:(0,v5)=r:=Option.some.inj h
  subst hr
  have this:∃ hh,callFn pr (X pr) 57 [sl 2 vunit a0] []=some (.tup [.int .i64 0,.int .i64 v5],false,hh):=by
   rw [callFn_at (show pr.fns 57=some c57 from rfl) (by simp)]
   simp only [go_sem,seval,c57,wh2,wh4,wh6,h7]
   exact ⟨_,rfl⟩
  obtain ⟨hh,this⟩:=this
  exact callIso_of rfl this (by first | rfl | simp only [go_sem,seval]) (by first | rfl | simp only [go_sem,seval])
end Go.Z
/-
 Pairs: functions that mirror the runs,and the runs,fourth part (printed by walk.py).
-/
namespace Go.Z
open Go Go.Abs
end Go.Z
