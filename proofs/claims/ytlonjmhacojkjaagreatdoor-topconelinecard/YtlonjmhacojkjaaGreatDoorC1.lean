/-
  TopConeLine: the chamber's functions: functions that mirror the runs, and the runs (printed by walk.py).
-/
import Derived.Test.YtlonjmhacojkjaaGreatDoorR1
import Derived.Test.YtlonjmhacojkjaaGreatDoorL5
import Derived.Test.YtlonjmhacojkjaaGreatDoorG0m
set_option linter.unusedVariables false
set_option linter.unusedSimpArgs false
set_option maxRecDepth 100000
set_option maxHeartbeats 4000000
namespace Go.Z
open Go Go.Abs
noncomputable def f19 (a0:Bool) (a1:Int):Option Int:=
 cond a0
  (some a1)
  (some 0)
theorem W19 {a0:Bool} {a1:Int} {r} (h:f19 a0 a1=some r):callIso pr (X pr) 19 [.bool a0,.int .i64 a1]=some (.int .i64 r,false):=by
 unfold f19 at h
 rcases cond_split h with ⟨h1,h⟩ | ⟨h1,h⟩
 ·have hr:a1=r:=Option.some.inj h
  subst hr
  have this:∃ hh,callFn pr (X pr) 19 [.bool a0,.int .i64 a1] []=some (.int .i64 a1,false,hh):=by
   rw [callFn_at (show pr.fns 19=some c19 from rfl) (by simp)]
   simp only [go_sem,seval,c19,h1]
   exact ⟨_,rfl⟩
  obtain ⟨hh,this⟩:=this
  exact callIso_of rfl this (by first | rfl | simp only [go_sem,seval]) (by first | rfl | simp only [go_sem,seval])
 ·have hr:0=r:=Option.some.inj h
  subst hr
  have this:∃ hh,callFn pr (X pr) 19 [.bool a0,.int .i64 a1] []=some (.int .i64 0,false,hh):=by
   rw [callFn_at (show pr.fns 19=some c19 from rfl) (by simp)]
   simp only [go_sem,seval,c19,h1]
   exact ⟨_,rfl⟩
  obtain ⟨hh,this⟩:=this
  exact callIso_of rfl this (by first | rfl | simp only [go_sem,seval]) (by first | rfl | simp only [go_sem,seval])
noncomputable def f57 (a0:Bool) (a1:Int):Option Int:=
 cond a0
  (some a1)
  (some 0)
theorem W57 {a0:Bool} {a1:Int} {r} (h:f57 a0 a1=some r):callIso pr (X pr) 57 [.bool a0,.int .i64 a1]=some (.int .i64 r,false):=by
 unfold f57 at h
 rcases cond_split h with ⟨h1,h⟩ | ⟨h1,h⟩
 ·have hr:a1=r:=Option.some.inj h
  subst hr
  have this:∃ hh,callFn pr (X pr) 57 [.bool a0,.int .i64 a1] []=some (.int .i64 a1,false,hh):=by
   rw [callFn_at (show pr.fns 57=some c57 from rfl) (by simp)]
   simp only [go_sem,seval,c57,h1]
   exact ⟨_,rfl⟩
  obtain ⟨hh,this⟩:=this
  exact callIso_of rfl this (by first | rfl | simp only [go_sem,seval]) (by first | rfl | simp only [go_sem,seval])
 ·have hr:0=r:=Option.some.inj h
  subst hr
  have this:∃ hh,callFn pr (X pr) 57 [.bool a0,.int .i64 a1] []=some (.int .i64 0,false,hh):=by
   rw [callFn_at (show pr.fns 57=some c57 from rfl) (by simp)]
   simp only [go_sem,seval,c57,h1]
   exact ⟨_,rfl⟩
  obtain ⟨hh,this⟩:=this
  exact callIso_of rfl this (by first | rfl | simp only [go_sem,seval]) (by first | rfl | simp only [go_sem,seval])
noncomputable def f118 (a0:Bool) (a1:Int):Option Int:=
 cond a0
  (some a1)
  (some 0)
theorem W118 {a0:Bool} {a1:Int} {r} (h:f118 a0 a1=some r):callIso pr (X pr) 118 [.bool a0,.int .i64 a1]=some (.int .i64 r,false):=by
 unfold f118 at h
 rcases cond_split h with ⟨h1,h⟩ | ⟨h1,h⟩
 ·have hr:a1=r:=Option.some.inj h
  subst hr
  have this:∃ hh,callFn pr (X pr) 118 [.bool a0,.int .i64 a1] []=some (.int .i64 a1,false,hh):=by
   rw [callFn_at (show pr.fns 118=some c118 from rfl) (by simp)]
   simp only [go_sem,seval,c118,h1]
   exact ⟨_,rfl⟩
  obtain ⟨hh,this⟩:=this
  exact callIso_of rfl this (by first | rfl | simp only [go_sem,seval]) (by first | rfl | simp only [go_sem,seval])
 ·have hr:0=r:=Option.some.inj h
  subst hr
  have this:∃ hh,callFn pr (X pr) 118 [.bool a0,.int .i64 a1] []=some (.int .i64 0,false,hh):=by
   rw [callFn_at (show pr.fns 118=some c118 from rfl) (by simp)]
   simp only [go_sem,seval,c118,h1]
   exact ⟨_,rfl⟩
  obtain ⟨hh,this⟩:=this
  exact callIso_of rfl this (by first | rfl | simp only [go_sem,seval]) (by first | rfl | simp only [go_sem,seval])
noncomputable def f60 (a0:Int) (a1:Int) (a2:Int):Option Int:=
 cond (decide (a0 < a1))
  (obind (f57 true 3) fun v2=>
  some v2)
  (obind (f57 (decide (a2 < a0)) 3) fun v4=>
  some v4)
theorem W60 {a0:Int} {a1:Int} {a2:Int} {r} (h:f60 a0 a1 a2=some r):callIso pr (X pr) 60 [.int .i64 a0,.int .i64 a1,.int .i64 a2]=some (.int .i64 r,false):=by
 unfold f60 at h
 rcases cond_split h with ⟨h1,h⟩ | ⟨h1,h⟩
 ·obtain ⟨v2,h3,h⟩:=obind_some h
  have wh3:callIso pr (X pr) 57 [.bool true,.int .i64 3]=some (.int .i64 v2,false):=W57 h3
  have hr:v2=r:=Option.some.inj h
  subst hr
  have this:∃ hh,callFn pr (X pr) 60 [.int .i64 a0,.int .i64 a1,.int .i64 a2] []=some (.int .i64 v2,false,hh):=by
   rw [callFn_at (show pr.fns 60=some c60 from rfl) (by simp)]
   simp only [go_sem,seval,c60,h1,wh3]
   exact ⟨_,rfl⟩
  obtain ⟨hh,this⟩:=this
  exact callIso_of rfl this (by first | rfl | simp only [go_sem,seval]) (by first | rfl | simp only [go_sem,seval])
 ·obtain ⟨v4,h5,h⟩:=obind_some h
  have wh5:callIso pr (X pr) 57 [.bool (decide (a2 < a0)),.int .i64 3]=some (.int .i64 v4,false):=W57 h5
  have hr:v4=r:=Option.some.inj h
  subst hr
  have this:∃ hh,callFn pr (X pr) 60 [.int .i64 a0,.int .i64 a1,.int .i64 a2] []=some (.int .i64 v4,false,hh):=by
   rw [callFn_at (show pr.fns 60=some c60 from rfl) (by simp)]
   simp only [go_sem,seval,c60,h1,wh5]
   exact ⟨_,rfl⟩
  obtain ⟨hh,this⟩:=this
  exact callIso_of rfl this (by first | rfl | simp only [go_sem,seval]) (by first | rfl | simp only [go_sem,seval])
noncomputable def f105 (a0:Int) (a1:Int) (a2:Int):Option Int:=
 cond (decide (a0 < a1))
  (obind (f118 true 3) fun v2=>
  some v2)
  (obind (f118 (decide (a2 < a0)) 3) fun v4=>
  some v4)
theorem W105 {a0:Int} {a1:Int} {a2:Int} {r} (h:f105 a0 a1 a2=some r):callIso pr (X pr) 105 [.int .i64 a0,.int .i64 a1,.int .i64 a2]=some (.int .i64 r,false):=by
 unfold f105 at h
 rcases cond_split h with ⟨h1,h⟩ | ⟨h1,h⟩
 ·obtain ⟨v2,h3,h⟩:=obind_some h
  have wh3:callIso pr (X pr) 118 [.bool true,.int .i64 3]=some (.int .i64 v2,false):=W118 h3
  have hr:v2=r:=Option.some.inj h
  subst hr
  have this:∃ hh,callFn pr (X pr) 105 [.int .i64 a0,.int .i64 a1,.int .i64 a2] []=some (.int .i64 v2,false,hh):=by
   rw [callFn_at (show pr.fns 105=some c105 from rfl) (by simp)]
   simp only [go_sem,seval,c105,h1,wh3]
   exact ⟨_,rfl⟩
  obtain ⟨hh,this⟩:=this
  exact callIso_of rfl this (by first | rfl | simp only [go_sem,seval]) (by first | rfl | simp only [go_sem,seval])
 ·obtain ⟨v4,h5,h⟩:=obind_some h
  have wh5:callIso pr (X pr) 118 [.bool (decide (a2 < a0)),.int .i64 3]=some (.int .i64 v4,false):=W118 h5
  have hr:v4=r:=Option.some.inj h
  subst hr
  have this:∃ hh,callFn pr (X pr) 105 [.int .i64 a0,.int .i64 a1,.int .i64 a2] []=some (.int .i64 v4,false,hh):=by
   rw [callFn_at (show pr.fns 105=some c105 from rfl) (by simp)]
   simp only [go_sem,seval,c105,h1,wh5]
   exact ⟨_,rfl⟩
  obtain ⟨hh,this⟩:=this
  exact callIso_of rfl this (by first | rfl | simp only [go_sem,seval]) (by first | rfl | simp only [go_sem,seval])
noncomputable def f26 (a0:Int):Option Int:=
 obind (f60 a0 (-1048576) 1048576) fun v1=>
 some v1
theorem W26 (hp:Heap) {a0:Int} {r} (h:f26 a0=some r):callFn pr (X pr) 26 [.int .i64 a0] hp=some (.int .i64 r,false,hp):=by
 unfold f26 at h
 obtain ⟨v1,h2,h⟩:=obind_some h
 have wh2:callIso pr (X pr) 60 [.int .i64 a0,.int .i64 (-1048576),.int .i64 1048576]=some (.int .i64 v1,false):=W60 h2
 have hr:v1=r:=Option.some.inj h
 subst hr
 rw [callFn_at (show pr.fns 26=some c26 from rfl) (by simp)]
 simp only [go_sem,seval,c26,wh2] <;> rfl
noncomputable def f87 (a0:Int):Option Int:=
 obind (f105 a0 (-1048576) 1048576) fun v1=>
 some v1
theorem W87 (hp:Heap) {a0:Int} {r} (h:f87 a0=some r):callFn pr (X pr) 87 [.int .i64 a0] hp=some (.int .i64 r,false,hp):=by
 unfold f87 at h
 obtain ⟨v1,h2,h⟩:=obind_some h
 have wh2:callIso pr (X pr) 105 [.int .i64 a0,.int .i64 (-1048576),.int .i64 1048576]=some (.int .i64 v1,false):=W105 h2
 have hr:v1=r:=Option.some.inj h
 subst hr
 rw [callFn_at (show pr.fns 87=some c87 from rfl) (by simp)]
 simp only [go_sem,seval,c87,wh2] <;> rfl
noncomputable def s22_0 (a0:Option (List Int)) (s0:Int):Option (Int ⊕ (Int ⊕ Int)):=
 cond (decide (s0 < ((a0.getD []).length:Int)))
  (obind (idxO (a0.getD []) s0) fun v10=>
  cond (decide (v10=0))
   (some (.inl (wrapF .i64 (s0 + 1))))
   (some (.inr (.inl v10))))
  (some (.inr (.inr s0)))
def St22_0 (a0:Option (List Int)) (s0:Int):ASt:=⟨[(5,sl 1 vint a0,false),(6,.int .i64 ((a0.getD []).length:Int),false),(7,.int .i64 s0,false)],[]⟩
def Ex22_0 (a0:Option (List Int)):Int ⊕ Int→AExit × ASt
 | .inl d=>(.ret,⟨[(2,.int .i64 d,false)],[]⟩)
 | .inr d=>(.exit 0,⟨[(5,sl 1 vint a0,false),(6,.int .i64 ((a0.getD []).length:Int),false),(7,.int .i64 d,false),(8,.bool false,false)],[]⟩)
theorem b22_0 (a0:Option (List Int)) (s0:Int) (r) (h:s22_0 a0 s0=some r):stepO pr c22_0 (St22_0 a0) (Ex22_0 a0) s0 r:=by
 unfold s22_0 at h
 rcases cond_split h with ⟨h9,h⟩ | ⟨h9,h⟩
 ·obtain ⟨v10,h11,h⟩:=obind_some h
  rcases cond_split h with ⟨h12,h⟩ | ⟨h12,h⟩
  ·cases h
   exact stepO_in (st':=⟨[(5,sl 1 vint a0,false),(6,.int .i64 ((a0.getD []).length:Int),false),(7,.int .i64 (wrapF .i64 (s0 + 1)),false)],[]⟩) (by simp only [go_sem,seval,c22_0,St22_0,h9,idxR_O h11,h12] <;> rfl) (gc_same (Nat.le_refl _))
  ·cases h
   exact stepO_out (by simp only [go_sem,seval,c22_0,St22_0,h9,idxR_O h11,h12,Ex22_0] <;> rfl)
 ·cases h
  exact stepO_out (by simp only [go_sem,seval,c22_0,St22_0,h9,Ex22_0] <;> rfl)
theorem l22_0 (a0:Option (List Int)) {s0:Int} {d} (h:itO (s22_0 a0) s0=some d):X pr (.loop c22_0) (St22_0 a0 s0)=some (Ex22_0 a0 d):=X_itO (b22_0 a0) (fun d=>by rcases d with d|d <;> (intro hh; cases hh)) h
noncomputable def f22 (a0:Option (List Int)):Option Int:=
 obind (itO (s22_0 a0) 0) fun d13=>match d13 with
  | .inl d15=>
   some d15
  | .inr d16=>
   some 0
theorem W22 {a0:Option (List Int)} {r} (h:f22 a0=some r):callIso pr (X pr) 22 [sl 1 vint a0]=some (.int .i64 r,false):=by
 unfold f22 at h
 obtain ⟨d13,h14,h⟩:=obind_some h
 rcases d13 with d15 | d16
 ·have wh14:X pr (.loop c22_0) ⟨[(5,sl 1 vint a0,false),(6,.int .i64 ((a0.getD []).length:Int),false),(7,.int .i64 0,false)],[]⟩=some (.ret,⟨[(2,.int .i64 d15,false)],[]⟩):=l22_0 a0 h14
  have hr:d15=r:=Option.some.inj h
  subst hr
  have this:∃ hh,callFn pr (X pr) 22 [sl 1 vint a0] []=some (.int .i64 d15,false,hh):=by
   rw [callFn_at (show pr.fns 22=some c22 from rfl) (by simp)]
   simp only [go_sem,seval,c22,wh14]
   exact ⟨_,rfl⟩
  obtain ⟨hh,this⟩:=this
  exact callIso_of rfl this (by first | rfl | simp only [go_sem,seval]) (by first | rfl | simp only [go_sem,seval])
 ·have wh14:X pr (.loop c22_0) ⟨[(5,sl 1 vint a0,false),(6,.int .i64 ((a0.getD []).length:Int),false),(7,.int .i64 0,false)],[]⟩=some (.exit 0,⟨[(5,sl 1 vint a0,false),(6,.int .i64 ((a0.getD []).length:Int),false),(7,.int .i64 d16,false),(8,.bool false,false)],[]⟩):=l22_0 a0 h14
  have hr:0=r:=Option.some.inj h
  subst hr
  have this:∃ hh,callFn pr (X pr) 22 [sl 1 vint a0] []=some (.int .i64 0,false,hh):=by
   rw [callFn_at (show pr.fns 22=some c22 from rfl) (by simp)]
   simp only [go_sem,seval,c22,wh14]
   exact ⟨_,rfl⟩
  obtain ⟨hh,this⟩:=this
  exact callIso_of rfl this (by first | rfl | simp only [go_sem,seval]) (by first | rfl | simp only [go_sem,seval])
noncomputable def s85_0 (a0:Option (List Int)) (s0:Int):Option (Int ⊕ (Int ⊕ Int)):=
 cond (decide (s0 < ((a0.getD []).length:Int)))
  (obind (idxO (a0.getD []) s0) fun v10=>
  cond (decide (v10=0))
   (some (.inl (wrapF .i64 (s0 + 1))))
   (some (.inr (.inl v10))))
  (some (.inr (.inr s0)))
def St85_0 (a0:Option (List Int)) (s0:Int):ASt:=⟨[(5,sl 1 vint a0,false),(6,.int .i64 ((a0.getD []).length:Int),false),(7,.int .i64 s0,false)],[]⟩
def Ex85_0 (a0:Option (List Int)):Int ⊕ Int→AExit × ASt
 | .inl d=>(.ret,⟨[(2,.int .i64 d,false)],[]⟩)
 | .inr d=>(.exit 0,⟨[(5,sl 1 vint a0,false),(6,.int .i64 ((a0.getD []).length:Int),false),(7,.int .i64 d,false),(8,.bool false,false)],[]⟩)
theorem b85_0 (a0:Option (List Int)) (s0:Int) (r) (h:s85_0 a0 s0=some r):stepO pr c85_0 (St85_0 a0) (Ex85_0 a0) s0 r:=by
 unfold s85_0 at h
 rcases cond_split h with ⟨h9,h⟩ | ⟨h9,h⟩
 ·obtain ⟨v10,h11,h⟩:=obind_some h
  rcases cond_split h with ⟨h12,h⟩ | ⟨h12,h⟩
  ·cases h
   exact stepO_in (st':=⟨[(5,sl 1 vint a0,false),(6,.int .i64 ((a0.getD []).length:Int),false),(7,.int .i64 (wrapF .i64 (s0 + 1)),false)],[]⟩) (by simp only [go_sem,seval,c85_0,St85_0,h9,idxR_O h11,h12] <;> rfl) (gc_same (Nat.le_refl _))
  ·cases h
   exact stepO_out (by simp only [go_sem,seval,c85_0,St85_0,h9,idxR_O h11,h12,Ex85_0] <;> rfl)
 ·cases h
  exact stepO_out (by simp only [go_sem,seval,c85_0,St85_0,h9,Ex85_0] <;> rfl)
theorem l85_0 (a0:Option (List Int)) {s0:Int} {d} (h:itO (s85_0 a0) s0=some d):X pr (.loop c85_0) (St85_0 a0 s0)=some (Ex85_0 a0 d):=X_itO (b85_0 a0) (fun d=>by rcases d with d|d <;> (intro hh; cases hh)) h
noncomputable def f85 (a0:Option (List Int)):Option Int:=
 obind (itO (s85_0 a0) 0) fun d13=>match d13 with
  | .inl d15=>
   some d15
  | .inr d16=>
   some 0
theorem W85 {a0:Option (List Int)} {r} (h:f85 a0=some r):callIso pr (X pr) 85 [sl 1 vint a0]=some (.int .i64 r,false):=by
 unfold f85 at h
 obtain ⟨d13,h14,h⟩:=obind_some h
 rcases d13 with d15 | d16
 ·have wh14:X pr (.loop c85_0) ⟨[(5,sl 1 vint a0,false),(6,.int .i64 ((a0.getD []).length:Int),false),(7,.int .i64 0,false)],[]⟩=some (.ret,⟨[(2,.int .i64 d15,false)],[]⟩):=l85_0 a0 h14
  have hr:d15=r:=Option.some.inj h
  subst hr
  have this:∃ hh,callFn pr (X pr) 85 [sl 1 vint a0] []=some (.int .i64 d15,false,hh):=by
   rw [callFn_at (show pr.fns 85=some c85 from rfl) (by simp)]
   simp only [go_sem,seval,c85,wh14]
   exact ⟨_,rfl⟩
  obtain ⟨hh,this⟩:=this
  exact callIso_of rfl this (by first | rfl | simp only [go_sem,seval]) (by first | rfl | simp only [go_sem,seval])
 ·have wh14:X pr (.loop c85_0) ⟨[(5,sl 1 vint a0,false),(6,.int .i64 ((a0.getD []).length:Int),false),(7,.int .i64 0,false)],[]⟩=some (.exit 0,⟨[(5,sl 1 vint a0,false),(6,.int .i64 ((a0.getD []).length:Int),false),(7,.int .i64 d16,false),(8,.bool false,false)],[]⟩):=l85_0 a0 h14
  have hr:0=r:=Option.some.inj h
  subst hr
  have this:∃ hh,callFn pr (X pr) 85 [sl 1 vint a0] []=some (.int .i64 0,false,hh):=by
   rw [callFn_at (show pr.fns 85=some c85 from rfl) (by simp)]
   simp only [go_sem,seval,c85,wh14]
   exact ⟨_,rfl⟩
  obtain ⟨hh,this⟩:=this
  exact callIso_of rfl this (by first | rfl | simp only [go_sem,seval]) (by first | rfl | simp only [go_sem,seval])
noncomputable def s25_0 (a0:Option (List Int)) (s0:(Option (List Int)) × Int × Bool):Option (((Option (List Int)) × Int × Bool) ⊕ (((Option (List Int)) × Bool × Int))):=
 cond (decide (s0.2.1 < ((a0.getD []).length:Int)))
  (obind (idxO (a0.getD []) s0.2.1) fun v18=>
  obind (f26 v18) fun v20=>
  cond s0.2.2
   (obind (apO s0.1 [v20]) fun v23=>
   some (.inl (v23,wrapF .i64 (s0.2.1 + 1),true)))
   (cond s0.1.isNone
    (obind (apO s0.1 [v20]) fun v26=>
    some (.inl (v26,wrapF .i64 (s0.2.1 + 1),true)))
    (none)))
  (some (.inr (s0.1,s0.2.2,s0.2.1)))
def St25_0 (a0:Option (List Int)) (s0:(Option (List Int)) × Int × Bool):ASt:=⟨[(1,.fn (.func 26) [] [],false),(5,sl 1 vint s0.1,s0.2.2),(8,sl 1 vint a0,false),(9,.int .i64 ((a0.getD []).length:Int),false),(10,.int .i64 s0.2.1,false)],[]⟩
def Ex25_0 (a0:Option (List Int)) (d:((Option (List Int)) × Bool × Int)):AExit × ASt:=(.exit 0,⟨[(1,.fn (.func 26) [] [],false),(5,sl 1 vint d.1,d.2.1),(8,sl 1 vint a0,false),(9,.int .i64 ((a0.getD []).length:Int),false),(10,.int .i64 d.2.2,false),(11,.bool false,false)],[]⟩)
theorem b25_0 (a0:Option (List Int)) (s0:(Option (List Int)) × Int × Bool) (r) (h:s25_0 a0 s0=some r):stepO pr c25_0 (St25_0 a0) (Ex25_0 a0) s0 r:=by
 unfold s25_0 at h
 rcases cond_split h with ⟨h17,h⟩ | ⟨h17,h⟩
 ·obtain ⟨v18,h19,h⟩:=obind_some h
  obtain ⟨v20,h21,h⟩:=obind_some h
  have wh21:callFn pr (X pr) 26 [.int .i64 v18] []=some (.int .i64 v20,false,[]):=W26 [] h21
  rcases cond_split h with ⟨h22,h⟩ | ⟨h22,h⟩
  ·obtain ⟨v23,h24,h⟩:=obind_some h
   cases h
   exact stepO_in (st':=⟨[(1,.fn (.func 26) [] [],false),(5,sl 1 vint v23,true),(8,sl 1 vint a0,false),(9,.int .i64 ((a0.getD []).length:Int),false),(10,.int .i64 (wrapF .i64 (s0.2.1 + 1)),false)],[]⟩) (by simp only [go_sem,seval,c25_0,St25_0,h17,idxR_O h19,wh21,h22,app_vint_O h24] <;> rfl) (gc_same (Nat.le_refl _))
  ·rcases cond_split h with ⟨h25,h⟩ | ⟨h25,h⟩
   ·obtain ⟨v26,h27,h⟩:=obind_some h
    cases h
    exact stepO_in (st':=⟨[(1,.fn (.func 26) [] [],false),(5,sl 1 vint v26,true),(8,sl 1 vint a0,false),(9,.int .i64 ((a0.getD []).length:Int),false),(10,.int .i64 (wrapF .i64 (s0.2.1 + 1)),false)],[]⟩) (by simp only [go_sem,seval,c25_0,St25_0,h17,idxR_O h19,wh21,h22,h25,app_vint_N h27 h25] <;> rfl) (gc_same (Nat.le_refl _))
   ·cases h
 ·cases h
  exact stepO_out (by simp only [go_sem,seval,c25_0,St25_0,h17,Ex25_0] <;> rfl)
theorem l25_0 (a0:Option (List Int)) {s0:(Option (List Int)) × Int × Bool} {d} (h:itO (s25_0 a0) s0=some d):X pr (.loop c25_0) (St25_0 a0 s0)=some (Ex25_0 a0 d):=X_itO (b25_0 a0) (fun d hh=>by cases hh) h
noncomputable def f25 (a0:Option (List Int)):Option ((Option (List Int)) × Bool):=
 obind (itO (s25_0 a0) (none,0,false)) fun d28=>
 some (d28.1,d28.2.1)
theorem W25 {a0:Option (List Int)} {r} (h:f25 a0=some r):callIso pr (X pr) 25 [sl 1 vint a0,.fn (.func 26) [] []]=some (sl 1 vint r.1,r.2):=by
 unfold f25 at h
 obtain ⟨d28,h29,h⟩:=obind_some h
 have wh29:X pr (.loop c25_0) ⟨[(1,.fn (.func 26) [] [],false),(5,.list true 0 [],false),(8,sl 1 vint a0,false),(9,.int .i64 ((a0.getD []).length:Int),false),(10,.int .i64 0,false)],[]⟩=some (.exit 0,⟨[(1,.fn (.func 26) [] [],false),(5,sl 1 vint d28.1,d28.2.1),(8,sl 1 vint a0,false),(9,.int .i64 ((a0.getD []).length:Int),false),(10,.int .i64 d28.2.2,false),(11,.bool false,false)],[]⟩):=l25_0 a0 h29
 have hr:(d28.1,d28.2.1)=r:=Option.some.inj h
 subst hr
 have this:∃ hh,callFn pr (X pr) 25 [sl 1 vint a0,.fn (.func 26) [] []] []=some (sl 1 vint d28.1,d28.2.1,hh):=by
  rw [callFn_at (show pr.fns 25=some c25 from rfl) (by simp)]
  simp only [go_sem,seval,c25,wh29]
  exact ⟨_,rfl⟩
 obtain ⟨hh,this⟩:=this
 exact callIso_of_dyn rfl this (by first | rfl | simp only [go_sem,seval]) (by first | rfl | simp only [go_sem,seval]) (by first | rfl | simp only [go_sem,seval])
noncomputable def s86_0 (a0:Option (List Int)) (s0:(Option (List Int)) × Int × Bool):Option (((Option (List Int)) × Int × Bool) ⊕ (((Option (List Int)) × Bool × Int))):=
 cond (decide (s0.2.1 < ((a0.getD []).length:Int)))
  (obind (idxO (a0.getD []) s0.2.1) fun v18=>
  obind (f87 v18) fun v20=>
  cond s0.2.2
   (obind (apO s0.1 [v20]) fun v23=>
   some (.inl (v23,wrapF .i64 (s0.2.1 + 1),true)))
   (cond s0.1.isNone
    (obind (apO s0.1 [v20]) fun v26=>
    some (.inl (v26,wrapF .i64 (s0.2.1 + 1),true)))
    (none)))
  (some (.inr (s0.1,s0.2.2,s0.2.1)))
def St86_0 (a0:Option (List Int)) (s0:(Option (List Int)) × Int × Bool):ASt:=⟨[(1,.fn (.func 87) [] [],false),(5,sl 1 vint s0.1,s0.2.2),(8,sl 1 vint a0,false),(9,.int .i64 ((a0.getD []).length:Int),false),(10,.int .i64 s0.2.1,false)],[]⟩
def Ex86_0 (a0:Option (List Int)) (d:((Option (List Int)) × Bool × Int)):AExit × ASt:=(.exit 0,⟨[(1,.fn (.func 87) [] [],false),(5,sl 1 vint d.1,d.2.1),(8,sl 1 vint a0,false),(9,.int .i64 ((a0.getD []).length:Int),false),(10,.int .i64 d.2.2,false),(11,.bool false,false)],[]⟩)
theorem b86_0 (a0:Option (List Int)) (s0:(Option (List Int)) × Int × Bool) (r) (h:s86_0 a0 s0=some r):stepO pr c86_0 (St86_0 a0) (Ex86_0 a0) s0 r:=by
 unfold s86_0 at h
 rcases cond_split h with ⟨h17,h⟩ | ⟨h17,h⟩
 ·obtain ⟨v18,h19,h⟩:=obind_some h
  obtain ⟨v20,h21,h⟩:=obind_some h
  have wh21:callFn pr (X pr) 87 [.int .i64 v18] []=some (.int .i64 v20,false,[]):=W87 [] h21
  rcases cond_split h with ⟨h22,h⟩ | ⟨h22,h⟩
  ·obtain ⟨v23,h24,h⟩:=obind_some h
   cases h
   exact stepO_in (st':=⟨[(1,.fn (.func 87) [] [],false),(5,sl 1 vint v23,true),(8,sl 1 vint a0,false),(9,.int .i64 ((a0.getD []).length:Int),false),(10,.int .i64 (wrapF .i64 (s0.2.1 + 1)),false)],[]⟩) (by simp only [go_sem,seval,c86_0,St86_0,h17,idxR_O h19,wh21,h22,app_vint_O h24] <;> rfl) (gc_same (Nat.le_refl _))
  ·rcases cond_split h with ⟨h25,h⟩ | ⟨h25,h⟩
   ·obtain ⟨v26,h27,h⟩:=obind_some h
    cases h
    exact stepO_in (st':=⟨[(1,.fn (.func 87) [] [],false),(5,sl 1 vint v26,true),(8,sl 1 vint a0,false),(9,.int .i64 ((a0.getD []).length:Int),false),(10,.int .i64 (wrapF .i64 (s0.2.1 + 1)),false)],[]⟩) (by simp only [go_sem,seval,c86_0,St86_0,h17,idxR_O h19,wh21,h22,h25,app_vint_N h27 h25] <;> rfl) (gc_same (Nat.le_refl _))
   ·cases h
 ·cases h
  exact stepO_out (by simp only [go_sem,seval,c86_0,St86_0,h17,Ex86_0] <;> rfl)
theorem l86_0 (a0:Option (List Int)) {s0:(Option (List Int)) × Int × Bool} {d} (h:itO (s86_0 a0) s0=some d):X pr (.loop c86_0) (St86_0 a0 s0)=some (Ex86_0 a0 d):=X_itO (b86_0 a0) (fun d hh=>by cases hh) h
noncomputable def f86 (a0:Option (List Int)):Option ((Option (List Int)) × Bool):=
 obind (itO (s86_0 a0) (none,0,false)) fun d28=>
 some (d28.1,d28.2.1)
theorem W86 {a0:Option (List Int)} {r} (h:f86 a0=some r):callIso pr (X pr) 86 [sl 1 vint a0,.fn (.func 87) [] []]=some (sl 1 vint r.1,r.2):=by
 unfold f86 at h
 obtain ⟨d28,h29,h⟩:=obind_some h
 have wh29:X pr (.loop c86_0) ⟨[(1,.fn (.func 87) [] [],false),(5,.list true 0 [],false),(8,sl 1 vint a0,false),(9,.int .i64 ((a0.getD []).length:Int),false),(10,.int .i64 0,false)],[]⟩=some (.exit 0,⟨[(1,.fn (.func 87) [] [],false),(5,sl 1 vint d28.1,d28.2.1),(8,sl 1 vint a0,false),(9,.int .i64 ((a0.getD []).length:Int),false),(10,.int .i64 d28.2.2,false),(11,.bool false,false)],[]⟩):=l86_0 a0 h29
 have hr:(d28.1,d28.2.1)=r:=Option.some.inj h
 subst hr
 have this:∃ hh,callFn pr (X pr) 86 [sl 1 vint a0,.fn (.func 87) [] []] []=some (sl 1 vint d28.1,d28.2.1,hh):=by
  rw [callFn_at (show pr.fns 86=some c86 from rfl) (by simp)]
  simp only [go_sem,seval,c86,wh29]
  exact ⟨_,rfl⟩
 obtain ⟨hh,this⟩:=this
 exact callIso_of_dyn rfl this (by first | rfl | simp only [go_sem,seval]) (by first | rfl | simp only [go_sem,seval]) (by first | rfl | simp only [go_sem,seval])
noncomputable def f23 (a0:Option (List Int)):Option Int:=
 obind (f57 (decide (256 < ((a0.getD []).length:Int))) 5) fun v1=>
 obind (f25 a0) fun v3=>
 obind (f22 v3.1) fun v5=>
 obind (f22 (some [v1,v5])) fun v7=>
 some v7
theorem W23 {a0:Option (List Int)} {r} (h:f23 a0=some r):callIso pr (X pr) 23 [sl 1 vint a0]=some (.int .i64 r,false):=by
 unfold f23 at h
 obtain ⟨v1,h2,h⟩:=obind_some h
 have wh2:callIso pr (X pr) 57 [.bool (decide (256 < ((a0.getD []).length:Int))),.int .i64 5]=some (.int .i64 v1,false):=W57 h2
 obtain ⟨v3,h4,h⟩:=obind_some h
 have wh4:callIso pr (X pr) 25 [sl 1 vint a0,.fn (.func 26) [] []]=some (sl 1 vint v3.1,v3.2):=W25 h4
 obtain ⟨v5,h6,h⟩:=obind_some h
 have wh6:callIso pr (X pr) 22 [sl 1 vint v3.1]=some (.int .i64 v5,false):=W22 h6
 obtain ⟨v7,h8,h⟩:=obind_some h
 have wh8:callIso pr (X pr) 22 [.list false 1 [.int .i64 v1,.int .i64 v5]]=some (.int .i64 v7,false):=W22 h8
 have hr:v7=r:=Option.some.inj h
 subst hr
 have this:∃ hh,callFn pr (X pr) 23 [sl 1 vint a0] []=some (.int .i64 v7,false,hh):=by
  rw [callFn_at (show pr.fns 23=some c23 from rfl) (by simp)]
  simp only [go_sem,seval,c23,wh2,wh4,wh6,wh8]
  exact ⟨_,rfl⟩
 obtain ⟨hh,this⟩:=this
 exact callIso_of rfl this (by first | rfl | simp only [go_sem,seval]) (by first | rfl | simp only [go_sem,seval])
noncomputable def f61 (a0:Option (List Int)):Option Int:=
 cond (decide (4096 < ((a0.getD []).length:Int)))
  (some 5)
  (obind (f86 a0) fun v2=>
  obind (f85 v2.1) fun v4=>
  some v4)
theorem W61 {a0:Option (List Int)} {r} (h:f61 a0=some r):callIso pr (X pr) 61 [sl 1 vint a0]=some (.int .i64 r,false):=by
 unfold f61 at h
 rcases cond_split h with ⟨h1,h⟩ | ⟨h1,h⟩
 ·have hr:5=r:=Option.some.inj h
  subst hr
  have this:∃ hh,callFn pr (X pr) 61 [sl 1 vint a0] []=some (.int .i64 5,false,hh):=by
   rw [callFn_at (show pr.fns 61=some c61 from rfl) (by simp)]
   simp only [go_sem,seval,c61,h1]
   exact ⟨_,rfl⟩
  obtain ⟨hh,this⟩:=this
  exact callIso_of rfl this (by first | rfl | simp only [go_sem,seval]) (by first | rfl | simp only [go_sem,seval])
 ·obtain ⟨v2,h3,h⟩:=obind_some h
  have wh3:callIso pr (X pr) 86 [sl 1 vint a0,.fn (.func 87) [] []]=some (sl 1 vint v2.1,v2.2):=W86 h3
  obtain ⟨v4,h5,h⟩:=obind_some h
  have wh5:callIso pr (X pr) 85 [sl 1 vint v2.1]=some (.int .i64 v4,false):=W85 h5
  have hr:v4=r:=Option.some.inj h
  subst hr
  have this:∃ hh,callFn pr (X pr) 61 [sl 1 vint a0] []=some (.int .i64 v4,false,hh):=by
   rw [callFn_at (show pr.fns 61=some c61 from rfl) (by simp)]
   simp only [go_sem,seval,c61,h1,wh3,wh5]
   exact ⟨_,rfl⟩
  obtain ⟨hh,this⟩:=this
  exact callIso_of rfl this (by first | rfl | simp only [go_sem,seval]) (by first | rfl | simp only [go_sem,seval])
noncomputable def s54_0 (a0:Option (List Int)) (s0:Int):Option (Int ⊕ (Unit ⊕ Int)):=
 cond (decide (s0 < ((a0.getD []).length:Int)))
  (obind (idxO (a0.getD []) s0) fun v12=>
  cond (decide (1048576 < v12))
   (some (.inr (.inl ())))
   (cond (decide (v12 < (-1048576)))
    (some (.inr (.inl ())))
    (some (.inl (wrapF .i64 (s0 + 1))))))
  (some (.inr (.inr s0)))
def St54_0 (a0:Option (List Int)) (s0:Int):ASt:=⟨[(0,sl 1 vint a0,false),(3,.int .i64 s0,false)],[]⟩
def Ex54_0 (a0:Option (List Int)):Unit ⊕ Int→AExit × ASt
 | .inl d=>(.ret,⟨[(2,.bool true,false)],[]⟩)
 | .inr d=>(.exit 0,⟨[(0,sl 1 vint a0,false),(3,.int .i64 d,false),(7,.bool false,false)],[]⟩)
theorem b54_0 (a0:Option (List Int)) (s0:Int) (r) (h:s54_0 a0 s0=some r):stepO pr c54_0 (St54_0 a0) (Ex54_0 a0) s0 r:=by
 unfold s54_0 at h
 rcases cond_split h with ⟨h11,h⟩ | ⟨h11,h⟩
 ·obtain ⟨v12,h13,h⟩:=obind_some h
  rcases cond_split h with ⟨h14,h⟩ | ⟨h14,h⟩
  ·cases h
   exact stepO_out (by simp only [go_sem,seval,c54_0,St54_0,h11,idxR_O h13,h14,Ex54_0] <;> rfl)
  ·rcases cond_split h with ⟨h15,h⟩ | ⟨h15,h⟩
   ·cases h
    exact stepO_out (by simp only [go_sem,seval,c54_0,St54_0,h11,idxR_O h13,h14,h15,Ex54_0] <;> rfl)
   ·cases h
    exact stepO_in (st':=⟨[(0,sl 1 vint a0,false),(3,.int .i64 (wrapF .i64 (s0 + 1)),false)],[]⟩) (by simp only [go_sem,seval,c54_0,St54_0,h11,idxR_O h13,h14,h15] <;> rfl) (gc_same (Nat.le_refl _))
 ·cases h
  exact stepO_out (by simp only [go_sem,seval,c54_0,St54_0,h11,Ex54_0] <;> rfl)
theorem l54_0 (a0:Option (List Int)) {s0:Int} {d} (h:itO (s54_0 a0) s0=some d):X pr (.loop c54_0) (St54_0 a0 s0)=some (Ex54_0 a0 d):=X_itO (b54_0 a0) (fun d=>by rcases d with d|d <;> (intro hh; cases hh)) h
noncomputable def f54 (a0:Option (List Int)):Option Bool:=
 obind (itO (s54_0 a0) 0) fun d16=>match d16 with
  | .inl d18=>
   some true
  | .inr d19=>
   some false
theorem W54 {a0:Option (List Int)} {r} (h:f54 a0=some r):callIso pr (X pr) 54 [sl 1 vint a0]=some (.bool r,false):=by
 unfold f54 at h
 obtain ⟨d16,h17,h⟩:=obind_some h
 rcases d16 with d18 | d19
 ·have wh17:X pr (.loop c54_0) ⟨[(0,sl 1 vint a0,false),(3,.int .i64 0,false)],[]⟩=some (.ret,⟨[(2,.bool true,false)],[]⟩):=l54_0 a0 h17
  have hr:true=r:=Option.some.inj h
  subst hr
  have this:∃ hh,callFn pr (X pr) 54 [sl 1 vint a0] []=some (.bool true,false,hh):=by
   rw [callFn_at (show pr.fns 54=some c54 from rfl) (by simp)]
   simp only [go_sem,seval,c54,wh17]
   exact ⟨_,rfl⟩
  obtain ⟨hh,this⟩:=this
  exact callIso_of rfl this (by first | rfl | simp only [go_sem,seval]) (by first | rfl | simp only [go_sem,seval])
 ·have wh17:X pr (.loop c54_0) ⟨[(0,sl 1 vint a0,false),(3,.int .i64 0,false)],[]⟩=some (.exit 0,⟨[(0,sl 1 vint a0,false),(3,.int .i64 d19,false),(7,.bool false,false)],[]⟩):=l54_0 a0 h17
  have hr:false=r:=Option.some.inj h
  subst hr
  have this:∃ hh,callFn pr (X pr) 54 [sl 1 vint a0] []=some (.bool false,false,hh):=by
   rw [callFn_at (show pr.fns 54=some c54 from rfl) (by simp)]
   simp only [go_sem,seval,c54,wh17]
   exact ⟨_,rfl⟩
  obtain ⟨hh,this⟩:=this
  exact callIso_of rfl this (by first | rfl | simp only [go_sem,seval]) (by first | rfl | simp only [go_sem,seval])
noncomputable def f18 (a0:Option (List Int)):Option Int:=
 obind (f19 (decide (256 < ((a0.getD []).length:Int))) 5) fun v1=>
 obind (f54 a0) fun v3=>
 obind (f19 v3 3) fun v5=>
 obind (E17 (some [v1,v5])) fun v7=>
 some v7
theorem W18 {a0:Option (List Int)} {r} (h:f18 a0=some r):callIso pr (X pr) 18 [sl 1 vint a0]=some (.int .i64 r,false):=by
 unfold f18 at h
 obtain ⟨v1,h2,h⟩:=obind_some h
 have wh2:callIso pr (X pr) 19 [.bool (decide (256 < ((a0.getD []).length:Int))),.int .i64 5]=some (.int .i64 v1,false):=W19 h2
 obtain ⟨v3,h4,h⟩:=obind_some h
 have wh4:callIso pr (X pr) 54 [sl 1 vint a0]=some (.bool v3,false):=W54 h4
 obtain ⟨v5,h6,h⟩:=obind_some h
 have wh6:callIso pr (X pr) 19 [.bool v3,.int .i64 3]=some (.int .i64 v5,false):=W19 h6
 obtain ⟨v7,h8,h⟩:=obind_some h
 have wh8:callIso pr (X pr) 17 [.list false 1 [.int .i64 v1,.int .i64 v5]]=some (.int .i64 v7,false):=WE17 h8
 have hr:v7=r:=Option.some.inj h
 subst hr
 have this:∃ hh,callFn pr (X pr) 18 [sl 1 vint a0] []=some (.int .i64 v7,false,hh):=by
  rw [callFn_at (show pr.fns 18=some c18 from rfl) (by simp)]
  simp only [go_sem,seval,c18,wh2,wh4,wh6,wh8]
  exact ⟨_,rfl⟩
 obtain ⟨hh,this⟩:=this
 exact callIso_of rfl this (by first | rfl | simp only [go_sem,seval]) (by first | rfl | simp only [go_sem,seval])
noncomputable def s4_0 (a0:Option (List (Option (List Int)))) (s0:Int):Option (Int ⊕ (Int ⊕ Int)):=
 cond (decide (s0 < ((a0.getD []).length:Int)))
  (obind (idxO (a0.getD []) s0) fun v24=>
  obind (f18 v24) fun v26=>
  obind (idxO (a0.getD []) 0) fun v28=>
  obind (f19 (!decide (((v24.getD []).length:Int)=((v28.getD []).length:Int))) 2) fun v30=>
  obind (E17 (some [v26,v30])) fun v32=>
  cond (decide (v32=0))
   (some (.inl (wrapF .i64 (s0 + 1))))
   (some (.inr (.inl v32))))
  (some (.inr (.inr s0)))
def St4_0 (a0:Option (List (Option (List Int)))) (s0:Int):ASt:=⟨[(0,sl 1 (sl 1 vint) a0,false),(3,.int .i64 s0,false)],[]⟩
def Ex4_0 (a0:Option (List (Option (List Int)))):Int ⊕ Int→AExit × ASt
 | .inl d=>(.ret,⟨[(2,.int .i64 d,false)],[]⟩)
 | .inr d=>(.exit 0,⟨[(0,sl 1 (sl 1 vint) a0,false),(3,.int .i64 d,false),(8,.bool false,false)],[]⟩)
theorem b4_0 (a0:Option (List (Option (List Int)))) (s0:Int) (r) (h:s4_0 a0 s0=some r):stepO pr c4_0 (St4_0 a0) (Ex4_0 a0) s0 r:=by
 unfold s4_0 at h
 rcases cond_split h with ⟨h23,h⟩ | ⟨h23,h⟩
 ·obtain ⟨v24,h25,h⟩:=obind_some h
  obtain ⟨v26,h27,h⟩:=obind_some h
  have wh27:callIso pr (X pr) 18 [sl 1 vint v24]=some (.int .i64 v26,false):=W18 h27
  obtain ⟨v28,h29,h⟩:=obind_some h
  obtain ⟨v30,h31,h⟩:=obind_some h
  have wh31:callIso pr (X pr) 19 [.bool (!decide (((v24.getD []).length:Int)=((v28.getD []).length:Int))),.int .i64 2]=some (.int .i64 v30,false):=W19 h31
  obtain ⟨v32,h33,h⟩:=obind_some h
  have wh33:callIso pr (X pr) 17 [.list false 1 [.int .i64 v26,.int .i64 v30]]=some (.int .i64 v32,false):=WE17 h33
  rcases cond_split h with ⟨h34,h⟩ | ⟨h34,h⟩
  ·cases h
   exact stepO_in (st':=⟨[(0,sl 1 (sl 1 vint) a0,false),(3,.int .i64 (wrapF .i64 (s0 + 1)),false)],[]⟩) (by simp only [go_sem,seval,c4_0,St4_0,h23,idxR_O h25,wh27,idxR_O h29,wh31,wh33,h34] <;> rfl) (gc_same (Nat.le_refl _))
  ·cases h
   exact stepO_out (by simp only [go_sem,seval,c4_0,St4_0,h23,idxR_O h25,wh27,idxR_O h29,wh31,wh33,h34,Ex4_0] <;> rfl)
 ·cases h
  exact stepO_out (by simp only [go_sem,seval,c4_0,St4_0,h23,Ex4_0] <;> rfl)
theorem l4_0 (a0:Option (List (Option (List Int)))) {s0:Int} {d} (h:itO (s4_0 a0) s0=some d):X pr (.loop c4_0) (St4_0 a0 s0)=some (Ex4_0 a0 d):=X_itO (b4_0 a0) (fun d=>by rcases d with d|d <;> (intro hh; cases hh)) h
noncomputable def f4 (a0:Option (List (Option (List Int)))):Option Int:=
 obind (itO (s4_0 a0) 0) fun d35=>match d35 with
  | .inl d37=>
   some d37
  | .inr d38=>
   some 0
theorem W4 {a0:Option (List (Option (List Int)))} {r} (h:f4 a0=some r):callIso pr (X pr) 4 [sl 1 (sl 1 vint) a0]=some (.int .i64 r,false):=by
 unfold f4 at h
 obtain ⟨d35,h36,h⟩:=obind_some h
 rcases d35 with d37 | d38
 ·have wh36:X pr (.loop c4_0) ⟨[(0,sl 1 (sl 1 vint) a0,false),(3,.int .i64 0,false)],[]⟩=some (.ret,⟨[(2,.int .i64 d37,false)],[]⟩):=l4_0 a0 h36
  have hr:d37=r:=Option.some.inj h
  subst hr
  have this:∃ hh,callFn pr (X pr) 4 [sl 1 (sl 1 vint) a0] []=some (.int .i64 d37,false,hh):=by
   rw [callFn_at (show pr.fns 4=some c4 from rfl) (by simp)]
   simp only [go_sem,seval,c4,wh36]
   exact ⟨_,rfl⟩
  obtain ⟨hh,this⟩:=this
  exact callIso_of rfl this (by first | rfl | simp only [go_sem,seval]) (by first | rfl | simp only [go_sem,seval])
 ·have wh36:X pr (.loop c4_0) ⟨[(0,sl 1 (sl 1 vint) a0,false),(3,.int .i64 0,false)],[]⟩=some (.exit 0,⟨[(0,sl 1 (sl 1 vint) a0,false),(3,.int .i64 d38,false),(8,.bool false,false)],[]⟩):=l4_0 a0 h36
  have hr:0=r:=Option.some.inj h
  subst hr
  have this:∃ hh,callFn pr (X pr) 4 [sl 1 (sl 1 vint) a0] []=some (.int .i64 0,false,hh):=by
   rw [callFn_at (show pr.fns 4=some c4 from rfl) (by simp)]
   simp only [go_sem,seval,c4,wh36]
   exact ⟨_,rfl⟩
  obtain ⟨hh,this⟩:=this
  exact callIso_of rfl this (by first | rfl | simp only [go_sem,seval]) (by first | rfl | simp only [go_sem,seval])
noncomputable def f30 (a0:Int) (a1:Int):Option Int:=
 obind (quoO .i64 a0 a1) fun v1=>
 obind (remO a0 a1) fun v3=>
 cond (decide (v3 < 0))
  (some (wrapF .i64 (v1 - 1)))
  (some v1)
theorem W30 {a0:Int} {a1:Int} {r} (h:f30 a0 a1=some r):callIso pr (X pr) 30 [.int .i64 a0,.int .i64 a1]=some (.int .i64 r,false):=by
 unfold f30 at h
 obtain ⟨v1,h2,h⟩:=obind_some h
 obtain ⟨v3,h4,h⟩:=obind_some h
 rcases cond_split h with ⟨h5,h⟩ | ⟨h5,h⟩
 ·have hr:wrapF .i64 (v1 - 1)=r:=Option.some.inj h
  subst hr
  have this:∃ hh,callFn pr (X pr) 30 [.int .i64 a0,.int .i64 a1] []=some (.int .i64 (wrapF .i64 (v1 - 1)),false,hh):=by
   rw [callFn_at (show pr.fns 30=some c30 from rfl) (by simp)]
   simp only [go_sem,seval,c30,b_quo_O h2,b_rem_O h4,h5]
   exact ⟨_,rfl⟩
  obtain ⟨hh,this⟩:=this
  exact callIso_of rfl this (by first | rfl | simp only [go_sem,seval]) (by first | rfl | simp only [go_sem,seval])
 ·have hr:v1=r:=Option.some.inj h
  subst hr
  have this:∃ hh,callFn pr (X pr) 30 [.int .i64 a0,.int .i64 a1] []=some (.int .i64 v1,false,hh):=by
   rw [callFn_at (show pr.fns 30=some c30 from rfl) (by simp)]
   simp only [go_sem,seval,c30,b_quo_O h2,b_rem_O h4,h5]
   exact ⟨_,rfl⟩
  obtain ⟨hh,this⟩:=this
  exact callIso_of rfl this (by first | rfl | simp only [go_sem,seval]) (by first | rfl | simp only [go_sem,seval])
noncomputable def s31_0 (a0:Option (List Int)) (a1:Option (List Int)) (s0:Int):Option (Int ⊕ (Unit ⊕ Int)):=
 cond (decide (s0 < ((a0.getD []).length:Int)))
  (obind (idxO (a0.getD []) s0) fun v15=>
  obind (idxO (a1.getD []) s0) fun v17=>
  cond (decide (v15=v17))
   (some (.inl (wrapF .i64 (s0 + 1))))
   (some (.inr (.inl ()))))
  (some (.inr (.inr s0)))
def St31_0 (a0:Option (List Int)) (a1:Option (List Int)) (s0:Int):ASt:=⟨[(0,sl 1 vint a0,false),(1,sl 1 vint a1,false),(12,.int .i64 ((a0.getD []).length:Int),false),(13,.int .i64 s0,false)],[]⟩
def Ex31_0 (a0:Option (List Int)) (a1:Option (List Int)):Unit ⊕ Int→AExit × ASt
 | .inl d=>(.ret,⟨[(4,.bool false,false)],[]⟩)
 | .inr d=>(.exit 0,⟨[(0,sl 1 vint a0,false),(1,sl 1 vint a1,false),(12,.int .i64 ((a0.getD []).length:Int),false),(13,.int .i64 d,false),(14,.bool false,false)],[]⟩)
theorem b31_0 (a0:Option (List Int)) (a1:Option (List Int)) (s0:Int) (r) (h:s31_0 a0 a1 s0=some r):stepO pr c31_0 (St31_0 a0 a1) (Ex31_0 a0 a1) s0 r:=by
 unfold s31_0 at h
 rcases cond_split h with ⟨h14,h⟩ | ⟨h14,h⟩
 ·obtain ⟨v15,h16,h⟩:=obind_some h
  obtain ⟨v17,h18,h⟩:=obind_some h
  rcases cond_split h with ⟨h19,h⟩ | ⟨h19,h⟩
  ·cases h
   exact stepO_in (st':=⟨[(0,sl 1 vint a0,false),(1,sl 1 vint a1,false),(12,.int .i64 ((a0.getD []).length:Int),false),(13,.int .i64 (wrapF .i64 (s0 + 1)),false)],[]⟩) (by simp only [go_sem,seval,c31_0,St31_0,h14,idxR_O h16,idxR_O h18,h19] <;> rfl) (gc_same (Nat.le_refl _))
  ·cases h
   exact stepO_out (by simp only [go_sem,seval,c31_0,St31_0,h14,idxR_O h16,idxR_O h18,h19,Ex31_0] <;> rfl)
 ·cases h
  exact stepO_out (by simp only [go_sem,seval,c31_0,St31_0,h14,Ex31_0] <;> rfl)
theorem l31_0 (a0:Option (List Int)) (a1:Option (List Int)) {s0:Int} {d} (h:itO (s31_0 a0 a1) s0=some d):X pr (.loop c31_0) (St31_0 a0 a1 s0)=some (Ex31_0 a0 a1 d):=X_itO (b31_0 a0 a1) (fun d=>by rcases d with d|d <;> (intro hh; cases hh)) h
noncomputable def f31 (a0:Option (List Int)) (a1:Option (List Int)):Option Bool:=
 cond (decide (((a0.getD []).length:Int)=((a1.getD []).length:Int)))
  (obind (itO (s31_0 a0 a1) 0) fun d20=>match d20 with
   | .inl d22=>
    some false
   | .inr d23=>
    some true)
  (some false)
theorem W31 {a0:Option (List Int)} {a1:Option (List Int)} {r} (h:f31 a0 a1=some r):callIso pr (X pr) 31 [sl 1 vint a0,sl 1 vint a1]=some (.bool r,false):=by
 unfold f31 at h
 rcases cond_split h with ⟨h1,h⟩ | ⟨h1,h⟩
 ·obtain ⟨d20,h21,h⟩:=obind_some h
  rcases d20 with d22 | d23
  ·have wh21:X pr (.loop c31_0) ⟨[(0,sl 1 vint a0,false),(1,sl 1 vint a1,false),(12,.int .i64 ((a0.getD []).length:Int),false),(13,.int .i64 0,false)],[]⟩=some (.ret,⟨[(4,.bool false,false)],[]⟩):=l31_0 a0 a1 h21
   have hr:false=r:=Option.some.inj h
   subst hr
   have this:∃ hh,callFn pr (X pr) 31 [sl 1 vint a0,sl 1 vint a1] []=some (.bool false,false,hh):=by
    rw [callFn_at (show pr.fns 31=some c31 from rfl) (by simp)]
    simp only [go_sem,seval,c31,h1,wh21]
    exact ⟨_,rfl⟩
   obtain ⟨hh,this⟩:=this
   exact callIso_of rfl this (by first | rfl | simp only [go_sem,seval]) (by first | rfl | simp only [go_sem,seval])
  ·have wh21:X pr (.loop c31_0) ⟨[(0,sl 1 vint a0,false),(1,sl 1 vint a1,false),(12,.int .i64 ((a0.getD []).length:Int),false),(13,.int .i64 0,false)],[]⟩=some (.exit 0,⟨[(0,sl 1 vint a0,false),(1,sl 1 vint a1,false),(12,.int .i64 ((a0.getD []).length:Int),false),(13,.int .i64 d23,false),(14,.bool false,false)],[]⟩):=l31_0 a0 a1 h21
   have hr:true=r:=Option.some.inj h
   subst hr
   have this:∃ hh,callFn pr (X pr) 31 [sl 1 vint a0,sl 1 vint a1] []=some (.bool true,false,hh):=by
    rw [callFn_at (show pr.fns 31=some c31 from rfl) (by simp)]
    simp only [go_sem,seval,c31,h1,wh21]
    exact ⟨_,rfl⟩
   obtain ⟨hh,this⟩:=this
   exact callIso_of rfl this (by first | rfl | simp only [go_sem,seval]) (by first | rfl | simp only [go_sem,seval])
 ·have hr:false=r:=Option.some.inj h
  subst hr
  have this:∃ hh,callFn pr (X pr) 31 [sl 1 vint a0,sl 1 vint a1] []=some (.bool false,false,hh):=by
   rw [callFn_at (show pr.fns 31=some c31 from rfl) (by simp)]
   simp only [go_sem,seval,c31,h1]
   exact ⟨_,rfl⟩
  obtain ⟨hh,this⟩:=this
  exact callIso_of rfl this (by first | rfl | simp only [go_sem,seval]) (by first | rfl | simp only [go_sem,seval])
noncomputable def s59_1 (a0:Option (List Int)) (a1:Option (List Int)) (s0:Int × (List Int)) (v46:Int) (s1:Int × (List Int)):Option ((Int × (List Int)) ⊕ ((Int × (List Int)))):=
 cond (decide (s1.1 < ((a1.getD []).length:Int)))
  (obind (idxO (a1.getD []) s1.1) fun v59=>
  obind (idxM ((wrapF .i64 ((wrapF .i64 (((a0.getD []).length:Int) + ((a1.getD []).length:Int))) - 1)).toNat) s1.2 (wrapF .i64 (s0.1 + s1.1))) fun v61=>
  some (.inl (wrapF .i64 (s1.1 + 1),s1.2.set (wrapF .i64 (s0.1 + s1.1)).toNat (wrapF .i64 (v61 + (wrapF .i64 (v46 * v59)))))))
  (some (.inr (s1.1,s1.2)))
def St59_1 (a0:Option (List Int)) (a1:Option (List Int)) (s0:Int × (List Int)) (v46:Int) (s1:Int × (List Int)):ASt:=⟨[(1,sl 1 vint a1,false),(5,.ms 0 0 ((wrapF .i64 ((wrapF .i64 (((a0.getD []).length:Int) + ((a1.getD []).length:Int))) - 1)).toNat),false),(6,.int .i64 s0.1,false),(7,.int .i64 v46,false),(25,sl 1 vint a0,false),(26,.int .i64 ((a0.getD []).length:Int),false),(27,.int .i64 s0.1,false),(32,sl 1 vint a1,false),(33,.int .i64 ((a1.getD []).length:Int),false),(34,.int .i64 s1.1,false)],[.cells (icl s1.2)]⟩
def Ex59_1 (a0:Option (List Int)) (a1:Option (List Int)) (s0:Int × (List Int)) (v46:Int) (d:(Int × (List Int))):AExit × ASt:=(.exit 2,⟨[(1,sl 1 vint a1,false),(5,.ms 0 0 ((wrapF .i64 ((wrapF .i64 (((a0.getD []).length:Int) + ((a1.getD []).length:Int))) - 1)).toNat),false),(6,.int .i64 s0.1,false),(7,.int .i64 v46,false),(25,sl 1 vint a0,false),(26,.int .i64 ((a0.getD []).length:Int),false),(27,.int .i64 s0.1,false),(32,sl 1 vint a1,false),(33,.int .i64 ((a1.getD []).length:Int),false),(34,.int .i64 d.1,false),(35,.bool false,false)],[.cells (icl d.2)]⟩)
theorem b59_1 (a0:Option (List Int)) (a1:Option (List Int)) (s0:Int × (List Int)) (v46:Int) (s1:Int × (List Int)) (r) (h:s59_1 a0 a1 s0 v46 s1=some r):stepO pr c59_1 (St59_1 a0 a1 s0 v46) (Ex59_1 a0 a1 s0 v46) s1 r:=by
 unfold s59_1 at h
 rcases cond_split h with ⟨h58,h⟩ | ⟨h58,h⟩
 ·obtain ⟨v59,h60,h⟩:=obind_some h
  obtain ⟨v61,h62,h⟩:=obind_some h
  cases h
  exact stepO_in (st':=⟨[(1,sl 1 vint a1,false),(5,.ms 0 0 ((wrapF .i64 ((wrapF .i64 (((a0.getD []).length:Int) + ((a1.getD []).length:Int))) - 1)).toNat),false),(6,.int .i64 s0.1,false),(7,.int .i64 v46,false),(25,sl 1 vint a0,false),(26,.int .i64 ((a0.getD []).length:Int),false),(27,.int .i64 s0.1,false),(32,sl 1 vint a1,false),(33,.int .i64 ((a1.getD []).length:Int),false),(34,.int .i64 (wrapF .i64 (s1.1 + 1)),false)],[.cells (icl (s1.2.set (wrapF .i64 (s0.1 + s1.1)).toNat (wrapF .i64 (v61 + (wrapF .i64 (v46 * v59))))))]⟩) (by simp only [go_sem,seval,c59_1,St59_1,h58,idxR_O h60,idx_ms_O h62,ld_ms_O h62,st_ms_O h62] <;> rfl) (gc_same (Nat.le_refl _))
 ·cases h
  exact stepO_out (by simp only [go_sem,seval,c59_1,St59_1,h58,Ex59_1] <;> rfl)
theorem l59_1 (a0:Option (List Int)) (a1:Option (List Int)) (s0:Int × (List Int)) (v46:Int) {s1:Int × (List Int)} {d} (h:itO (s59_1 a0 a1 s0 v46) s1=some d):X pr (.loop c59_1) (St59_1 a0 a1 s0 v46 s1)=some (Ex59_1 a0 a1 s0 v46 d):=X_itO (b59_1 a0 a1 s0 v46) (fun d hh=>by cases hh) h
noncomputable def s59_0 (a0:Option (List Int)) (a1:Option (List Int)) (s0:Int × (List Int)):Option ((Int × (List Int)) ⊕ ((Int × (List Int)))):=
 cond (decide (s0.1 < ((a0.getD []).length:Int)))
  (obind (idxO (a0.getD []) s0.1) fun v46=>
  obind (itO (s59_1 a0 a1 s0 v46) (0,s0.2)) fun d63=>
  some (.inl (wrapF .i64 (s0.1 + 1),d63.2)))
  (some (.inr (s0.1,s0.2)))
def St59_0 (a0:Option (List Int)) (a1:Option (List Int)) (s0:Int × (List Int)):ASt:=⟨[(1,sl 1 vint a1,false),(5,.ms 0 0 ((wrapF .i64 ((wrapF .i64 (((a0.getD []).length:Int) + ((a1.getD []).length:Int))) - 1)).toNat),false),(25,sl 1 vint a0,false),(26,.int .i64 ((a0.getD []).length:Int),false),(27,.int .i64 s0.1,false)],[.cells (icl s0.2)]⟩
def Ex59_0 (a0:Option (List Int)) (a1:Option (List Int)) (d:(Int × (List Int))):AExit × ASt:=(.exit 0,⟨[(1,sl 1 vint a1,false),(5,.ms 0 0 ((wrapF .i64 ((wrapF .i64 (((a0.getD []).length:Int) + ((a1.getD []).length:Int))) - 1)).toNat),false),(25,sl 1 vint a0,false),(26,.int .i64 ((a0.getD []).length:Int),false),(27,.int .i64 d.1,false),(28,.bool false,false)],[.cells (icl d.2)]⟩)
theorem b59_0 (a0:Option (List Int)) (a1:Option (List Int)) (s0:Int × (List Int)) (r) (h:s59_0 a0 a1 s0=some r):stepO pr c59_0 (St59_0 a0 a1) (Ex59_0 a0 a1) s0 r:=by
 unfold s59_0 at h
 rcases cond_split h with ⟨h45,h⟩ | ⟨h45,h⟩
 ·obtain ⟨v46,h47,h⟩:=obind_some h
  obtain ⟨d63,h64,h⟩:=obind_some h
  have wh64:X pr (.loop c59_1) ⟨[(1,sl 1 vint a1,false),(5,.ms 0 0 ((wrapF .i64 ((wrapF .i64 (((a0.getD []).length:Int) + ((a1.getD []).length:Int))) - 1)).toNat),false),(6,.int .i64 s0.1,false),(7,.int .i64 v46,false),(25,sl 1 vint a0,false),(26,.int .i64 ((a0.getD []).length:Int),false),(27,.int .i64 s0.1,false),(32,sl 1 vint a1,false),(33,.int .i64 ((a1.getD []).length:Int),false),(34,.int .i64 0,false)],[.cells (icl s0.2)]⟩=some (.exit 2,⟨[(1,sl 1 vint a1,false),(5,.ms 0 0 ((wrapF .i64 ((wrapF .i64 (((a0.getD []).length:Int) + ((a1.getD []).length:Int))) - 1)).toNat),false),(6,.int .i64 s0.1,false),(7,.int .i64 v46,false),(25,sl 1 vint a0,false),(26,.int .i64 ((a0.getD []).length:Int),false),(27,.int .i64 s0.1,false),(32,sl 1 vint a1,false),(33,.int .i64 ((a1.getD []).length:Int),false),(34,.int .i64 d63.1,false),(35,.bool false,false)],[.cells (icl d63.2)]⟩):=l59_1 a0 a1 s0 v46 h64
  cases h
  exact stepO_in (st':=⟨[(1,sl 1 vint a1,false),(5,.ms 0 0 ((wrapF .i64 ((wrapF .i64 (((a0.getD []).length:Int) + ((a1.getD []).length:Int))) - 1)).toNat),false),(25,sl 1 vint a0,false),(26,.int .i64 ((a0.getD []).length:Int),false),(27,.int .i64 (wrapF .i64 (s0.1 + 1)),false)],[.cells (icl d63.2)]⟩) (by simp only [go_sem,seval,c59_0,St59_0,h45,idxR_O h47,wh64] <;> rfl) (gc_same (Nat.le_refl _))
 ·cases h
  exact stepO_out (by simp only [go_sem,seval,c59_0,St59_0,h45,Ex59_0] <;> rfl)
theorem l59_0 (a0:Option (List Int)) (a1:Option (List Int)) {s0:Int × (List Int)} {d} (h:itO (s59_0 a0 a1) s0=some d):X pr (.loop c59_0) (St59_0 a0 a1 s0)=some (Ex59_0 a0 a1 d):=X_itO (b59_0 a0 a1) (fun d hh=>by cases hh) h
noncomputable def f59 (a0:Option (List Int)) (a1:Option (List Int)):Option (Option (List Int)):=
 cond (decide (((a0.getD []).length:Int)=0))
  (some none)
  (cond (decide (((a1.getD []).length:Int)=0))
   (some none)
   (obind (mkIO (wrapF .i64 ((wrapF .i64 (((a0.getD []).length:Int) + ((a1.getD []).length:Int))) - 1))) fun v3=>
   obind (itO (s59_0 a0 a1) (0,v3)) fun d65=>
   obind (takeM ((wrapF .i64 ((wrapF .i64 (((a0.getD []).length:Int) + ((a1.getD []).length:Int))) - 1)).toNat) d65.2) fun v67=>
   some (some v67)))
theorem W59 {a0:Option (List Int)} {a1:Option (List Int)} {r} (h:f59 a0 a1=some r):callIso pr (X pr) 59 [sl 1 vint a0,sl 1 vint a1]=some (sl 1 vint r,false):=by
 unfold f59 at h
 rcases cond_split h with ⟨h1,h⟩ | ⟨h1,h⟩
 ·have hr:none=r:=Option.some.inj h
  subst hr
  have this:∃ hh,callFn pr (X pr) 59 [sl 1 vint a0,sl 1 vint a1] []=some (.list true 0 [],false,hh):=by
   rw [callFn_at (show pr.fns 59=some c59 from rfl) (by simp)]
   simp only [go_sem,seval,c59,h1]
   exact ⟨_,rfl⟩
  obtain ⟨hh,this⟩:=this
  exact callIso_of rfl this (by first | rfl | simp only [go_sem,seval]) (by first | rfl | simp only [go_sem,seval])
 ·rcases cond_split h with ⟨h2,h⟩ | ⟨h2,h⟩
  ·have hr:none=r:=Option.some.inj h
   subst hr
   have this:∃ hh,callFn pr (X pr) 59 [sl 1 vint a0,sl 1 vint a1] []=some (.list true 0 [],false,hh):=by
    rw [callFn_at (show pr.fns 59=some c59 from rfl) (by simp)]
    simp only [go_sem,seval,c59,h1,h2]
    exact ⟨_,rfl⟩
   obtain ⟨hh,this⟩:=this
   exact callIso_of rfl this (by first | rfl | simp only [go_sem,seval]) (by first | rfl | simp only [go_sem,seval])
  ·obtain ⟨v3,h4,h⟩:=obind_some h
   obtain ⟨d65,h66,h⟩:=obind_some h
   have wh66:X pr (.loop c59_0) ⟨[(1,sl 1 vint a1,false),(5,.ms 0 0 ((wrapF .i64 ((wrapF .i64 (((a0.getD []).length:Int) + ((a1.getD []).length:Int))) - 1)).toNat),false),(25,sl 1 vint a0,false),(26,.int .i64 ((a0.getD []).length:Int),false),(27,.int .i64 0,false)],[.cells (icl v3)]⟩=some (.exit 0,⟨[(1,sl 1 vint a1,false),(5,.ms 0 0 ((wrapF .i64 ((wrapF .i64 (((a0.getD []).length:Int) + ((a1.getD []).length:Int))) - 1)).toNat),false),(25,sl 1 vint a0,false),(26,.int .i64 ((a0.getD []).length:Int),false),(27,.int .i64 d65.1,false),(28,.bool false,false)],[.cells (icl d65.2)]⟩):=l59_0 a0 a1 h66
   obtain ⟨v67,h68,h⟩:=obind_some h
   have hr:some v67=r:=Option.some.inj h
   subst hr
   have this:callFn pr (X pr) 59 [sl 1 vint a0,sl 1 vint a1] []=some (.ms 0 0 ((wrapF .i64 ((wrapF .i64 (((a0.getD []).length:Int) + ((a1.getD []).length:Int))) - 1)).toNat),false,[.cells (icl d65.2)]):=by
    rw [callFn_at (show pr.fns 59=some c59 from rfl) (by simp)]
    simp only [go_sem,seval,c59,h1,h2,mkslI_O h4,wh66,frz_ms_O h68]
   exact callIso_of rfl this (by simp only [go_sem,seval,frz_ms_O h68] <;> rfl) (by simp only [go_sem,seval])
end Go.Z
/-
 Sums,convolutions,complementary pairs: plain facts.
-/
namespace Go.Z
open Go Go.Abs
def sg (f:Nat→Int):Nat→Int
 | 0=>0
 | n + 1=>sg f n + f n
theorem sg_congr {f g:Nat→Int}:∀ {n:Nat},(∀ i,i < n→f i=g i)→sg f n=sg g n
 | 0,_=>rfl
 | n + 1,h=>by rw [sg,sg,sg_congr (fun i hi=>h i (by omega)),h n (by omega)]
theorem sg_zero {n:Nat}:sg (fun _=>0) n=0:=by
 induction n with
 | zero=>rfl
 | succ n ih=>rw [sg,ih]; rfl
theorem sg_add {f g:Nat→Int} {n:Nat}:sg (fun i=>f i + g i) n=sg f n + sg g n:=by
 induction n with
 | zero=>rfl
 | succ n ih=>rw [sg,sg,sg,ih]; omega
theorem sg_mul {c:Int} {f:Nat→Int} {n:Nat}:sg (fun i=>c * f i) n=c * sg f n:=by
 induction n with
 | zero=>simp [sg]
 | succ n ih=>rw [sg,sg,ih,Int.mul_add]
theorem sg_swap {f:Nat→Nat→Int} {n m:Nat}:sg (fun i=>sg (fun k=>f i k) m) n=sg (fun k=>sg (fun i=>f i k) n) m:=by
 induction n with
 | zero=>simp only [sg]; exact sg_zero.symm
 | succ n ih=>simp only [sg]; rw [ih,← sg_add]
theorem sg_pick {f:Nat→Int} {n j:Nat} (hj:j < n) (h:∀ i,i < n→i ≠ j→f i=0):sg f n=f j:=by
 induction n with
 | zero=>omega
 | succ n ih=>
  rw [sg]
  by_cases e:j=n
  ·subst e
   rw [sg_congr (g:=fun _=>0) (fun i hi=>h i (by omega) (by omega)),sg_zero]; omega
  ·rw [ih (by omega) (fun i hi hn=>h i (by omega) hn),h n (by omega) (fun e2=>e e2.symm)]; omega
theorem sg_bound {f:Nat→Int} {B:Int} {n:Nat} (h:∀ i,i < n→-B≤f i∧f i≤B):-(n * B)≤sg f n∧sg f n≤n * B:=by
 induction n with
 | zero=>simp [sg]
 | succ n ih=>
  have h1:=ih (fun i hi=>h i (by omega))
  have h2:=h n (by omega)
  rw [sg]
  have e:((n + 1:Nat):Int) * B=n * B + B:=by rw [Int.natCast_add,Int.add_mul]; simp
  rw [e]; omega
def tb (N:Nat) (f:Nat→Int):List Int:=(List.range N).map f
theorem tb_len (N:Nat) (f:Nat→Int):(tb N f).length=N:=by simp [tb]
theorem tb_get {N:Nat} {f:Nat→Int} {i:Nat} (h:i < N):(tb N f)[i]?=some (f i):=by simp [tb,h]
theorem tb_set {N:Nat} {f:Nat→Int} {j:Nat} {v:Int}:(tb N f).set j v=tb N (fun m=>if m=j then v else f m):=by
 apply List.ext_getElem?
 intro i
 rw [List.getElem?_set]
 by_cases hi:i < N
 ·rw [tb_get hi,tb_get hi,tb_len]
  by_cases e:j=i
  ·subst e; simp [hi]
  ·rw [if_neg e,if_neg (fun e2=>e e2.symm)]
 ·have h1:∀ g,(tb N g)[i]?=none:=fun g=>List.getElem?_eq_none (by rw [tb_len]; omega)
  rw [h1,h1,tb_len]
  by_cases e:j=i
  ·rw [if_pos e,if_neg (by omega)]
  ·rw [if_neg e]
theorem tb_congr {N:Nat} {f g:Nat→Int} (h:∀ i,i < N→f i=g i):tb N f=tb N g:=by
 unfold tb
 exact List.map_congr_left fun i hi=>h i (List.mem_range.1 hi)
theorem tb_zero (N:Nat):List.replicate N (0:Int)=tb N (fun _=>0):=by
 apply List.ext_getElem?
 intro i
 by_cases hi:i < N
 ·rw [tb_get hi,List.getElem?_replicate,if_pos hi]
 ·rw [List.getElem?_eq_none (by simp; omega),List.getElem?_eq_none (by rw [tb_len]; omega)]
theorem tb_of (l:List Int):tb l.length (fun i=>l.getD i 0)=l:=by
 apply List.ext_getElem?
 intro i
 by_cases hi:i < l.length
 ·rw [tb_get hi,List.getElem?_eq_getElem hi,List.getD_eq_getElem?_getD,List.getElem?_eq_getElem hi]; rfl
 ·rw [List.getElem?_eq_none (by rw [tb_len]; omega),List.getElem?_eq_none (by omega)]
def mv (p:List Int) (m i:Nat):Int:=if i≤m∧m - i < p.length then p.getD (m - i) 0 else 0
def cvF (h p:List Int) (m:Nat):Int:=sg (fun i=>h.getD i 0 * mv p m i) h.length
def cv (h p:List Int):List Int:=tb (h.length + p.length - 1) (cvF h p)
def Lim (B:Int) (l:List Int):Prop:=∀ x∈l,-B≤x∧x≤B
theorem lim_get {B:Int} {l:List Int} (h:Lim B l) (hB:0≤B) (i:Nat):-B≤l.getD i 0∧l.getD i 0≤B:=by
 rw [List.getD_eq_getElem?_getD]
 by_cases hi:i < l.length
 ·rw [List.getElem?_eq_getElem hi]; exact h _ (List.getElem_mem hi)
 ·rw [List.getElem?_eq_none (by omega)]; simp; omega
theorem lim_mv {p:List Int} (hp:Lim 1 p) (m i:Nat):-1≤mv p m i∧mv p m i≤1:=by
 unfold mv
 split
 ·exact lim_get hp (by omega) _
 ·omega
theorem mul_lim {x y:Int} (hx:-200≤x∧x≤200) (hy:-1≤y∧y≤1):-200≤x * y∧x * y≤200:=by
 have:y=-1∨y=0∨y=1:=by omega
 rcases this with rfl | rfl | rfl <;> omega
theorem cv_lim {h p:List Int} (hh:Lim 200 h) (hp:Lim 1 p) (hl:h.length≤8) (m:Nat):-1600≤cvF h p m∧cvF h p m≤1600:=by
 have:=sg_bound (f:=fun i=>h.getD i 0 * mv p m i) (B:=200) (n:=h.length) (fun i _=>mul_lim (lim_get hh (by omega) i) (lim_mv hp m i))
 unfold cvF
 omega
def gol:Nat→List Int × List Int
 | 0=>([1],[1])
 | k + 1=>((gol k).1++(gol k).2,(gol k).1++(gol k).2.map fun x=>-x)
theorem gol_len:∀ k,(gol k).1.length=2 ^ k∧(gol k).2.length=2 ^ k
 | 0=>⟨rfl,rfl⟩
 | k + 1=>by
  have:=gol_len k
  simp only [gol,List.length_append,List.length_map,Nat.pow_succ]
  omega
theorem gol_lim:∀ k,Lim 1 (gol k).1∧Lim 1 (gol k).2
 | 0=>⟨fun x hx=>by simp [gol] at hx; omega,fun x hx=>by simp [gol] at hx; omega⟩
 | k + 1=>by
  have ⟨h1,h2⟩:=gol_lim k
  refine ⟨fun x hx=>?_,fun x hx=>?_⟩
  ·rcases List.mem_append.1 hx with hx | hx
   ·exact h1 x hx
   ·exact h2 x hx
  ·rcases List.mem_append.1 hx with hx | hx
   ·exact h1 x hx
   ·obtain ⟨y,hy,rfl⟩:=List.mem_map.1 hx
    have:=h2 y hy
    omega
def cor (k:Nat) (i j:Nat):Int:=sg (fun x=>(gol k).1.getD x 0 * mv (gol k).1 (x + j) i) (2 ^ k) + sg (fun x=>(gol k).2.getD x 0 * mv (gol k).2 (x + j) i) (2 ^ k)
def corAll (k:Nat):Bool:=(List.range 8).all fun i=>(List.range 8).all fun j=>decide (cor k i j=if i=j then 2 * (2:Int) ^ k else 0)
theorem cor0:corAll 0=true:=by kernel_rfl
theorem cor1:corAll 1=true:=by kernel_rfl
theorem cor2:corAll 2=true:=by kernel_rfl
theorem cor3:corAll 3=true:=by kernel_rfl
theorem cor4:corAll 4=true:=by kernel_rfl
theorem cor5:corAll 5=true:=by kernel_rfl
theorem cor6:corAll 6=true:=by kernel_rfl
theorem cor_is {k i j:Nat} (hk:k < 7) (hi:i < 8) (hj:j < 8):cor k i j=if i=j then 2 * (2:Int) ^ k else 0:=by
 have h:corAll k=true:=by
  rcases (by omega:k=0∨k=1∨k=2∨k=3∨k=4∨k=5∨k=6) with rfl | rfl | rfl | rfl | rfl | rfl | rfl
  ·exact cor0
  ·exact cor1
  ·exact cor2
  ·exact cor3
  ·exact cor4
  ·exact cor5
  ·exact cor6
 exact of_decide_eq_true (List.all_eq_true.1 (List.all_eq_true.1 h i (List.mem_range.2 hi)) j (List.mem_range.2 hj))
theorem back {h:List Int} {k j:Nat} (hk:k < 7) (hl:h.length≤8) (hj:j < h.length):
  sg (fun x=>(gol k).1.getD x 0 * cvF h (gol k).1 (x + j) + (gol k).2.getD x 0 * cvF h (gol k).2 (x + j)) (2 ^ k)=2 * (2:Int) ^ k * h.getD j 0:=by
 have e:∀ p:List Int,sg (fun x=>p.getD x 0 * cvF h p (x + j)) (2 ^ k)=sg (fun i=>h.getD i 0 * sg (fun x=>p.getD x 0 * mv p (x + j) i) (2 ^ k)) h.length:=by
  intro p
  have:(fun x=>p.getD x 0 * cvF h p (x + j))=fun x=>sg (fun i=>h.getD i 0 * (p.getD x 0 * mv p (x + j) i)) h.length:=by
   funext x
   unfold cvF
   rw [← sg_mul]
   exact sg_congr fun i _=>by rw [Int.mul_left_comm]
  rw [this,sg_swap]
  exact sg_congr fun i _=>sg_mul
 rw [sg_add,e,e,← sg_add]
 have e2:sg (fun i=>h.getD i 0 * sg (fun x=>(gol k).1.getD x 0 * mv (gol k).1 (x + j) i) (2 ^ k) + h.getD i 0 * sg (fun x=>(gol k).2.getD x 0 * mv (gol k).2 (x + j) i) (2 ^ k)) h.length=sg (fun i=>h.getD i 0 * cor k i j) h.length:=
  sg_congr fun i _=>by unfold cor; rw [Int.mul_add]
 rw [e2,sg_pick hj (fun i hi hn=>by rw [cor_is hk (by omega) (by omega),if_neg hn,Int.mul_zero]),cor_is hk (by omega) (by omega),if_pos rfl,Int.mul_comm]
end Go.Z
/-
 TopConeLine: the complementary pairs,by the kernel.
-/
namespace Go.Z
open Go Go.Abs
theorem run56 {n:Int} {r} (h:callIso pr (xcodeF pr 1000) 56 [.int .i64 n]=some r):callIso pr (X pr) 56 [.int .i64 n]=some r:=callIso_mono (X_of 1000) (callIso_F h)
def pairV (k:Nat):AVal:=.tup [sl 1 vint (some (gol k).1),sl 1 vint (some (gol k).2),.int .i64 0]
theorem p56_0:callIso pr (X pr) 56 [.int .i64 1]=some (pairV 0,false):=run56 (by kernel_rfl)
theorem p56_1:callIso pr (X pr) 56 [.int .i64 2]=some (pairV 1,false):=run56 (by kernel_rfl)
theorem p56_2:callIso pr (X pr) 56 [.int .i64 4]=some (pairV 2,false):=run56 (by kernel_rfl)
theorem p56_3:callIso pr (X pr) 56 [.int .i64 8]=some (pairV 3,false):=run56 (by kernel_rfl)
theorem p56_4:callIso pr (X pr) 56 [.int .i64 16]=some (pairV 4,false):=run56 (by kernel_rfl)
theorem p56_5:callIso pr (X pr) 56 [.int .i64 32]=some (pairV 5,false):=run56 (by kernel_rfl)
theorem p56_6:callIso pr (X pr) 56 [.int .i64 64]=some (pairV 6,false):=run56 (by kernel_rfl)
noncomputable def E56p (n:Int):Option (Option (List Int) × Option (List Int) × Int):=
 exO (∃ k,k < 7∧n=((2 ^ k:Nat):Int)) (some (gol (Nat.log2 n.toNat)).1,some (gol (Nat.log2 n.toNat)).2,0)
theorem pow7 {k:Nat} (hk:k < 7):k=0∨k=1∨k=2∨k=3∨k=4∨k=5∨k=6:=by omega
theorem E56p_at {k:Nat} (hk:k < 7):E56p ((2 ^ k:Nat):Int)=some (some (gol k).1,some (gol k).2,0):=by
 have e:Nat.log2 (((2 ^ k:Nat):Int).toNat)=k:=by
  rcases pow7 hk with rfl | rfl | rfl | rfl | rfl | rfl | rfl <;> decide
 unfold E56p
 rw [exO_of ⟨k,hk,rfl⟩,e]
theorem WE56p {n:Int} {r} (h:E56p n=some r):callIso pr (X pr) 56 [.int .i64 n]=some (.tup [sl 1 vint r.1,sl 1 vint r.2.1,.int .i64 r.2.2],false):=by
 have hc:∃ k,k < 7∧n=((2 ^ k:Nat):Int):=(exO_some h).1
 obtain ⟨k,hk,rfl⟩:=hc
 rw [E56p_at hk] at h
 cases h
 rcases pow7 hk with rfl | rfl | rfl | rfl | rfl | rfl | rfl
 ·exact p56_0
 ·exact p56_1
 ·exact p56_2
 ·exact p56_3
 ·exact p56_4
 ·exact p56_5
 ·exact p56_6
end Go.Z
