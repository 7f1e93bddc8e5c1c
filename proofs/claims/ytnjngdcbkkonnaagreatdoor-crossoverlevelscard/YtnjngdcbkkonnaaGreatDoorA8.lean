/-
  Chapter 4: choices: functions that mirror the runs, and the runs (printed by walk.py).
-/
import Derived.Test.YtnjngdcbkkonnaaGreatDoorCV
set_option linter.unusedVariables false
set_option linter.unusedSimpArgs false
set_option maxRecDepth 100000
set_option maxHeartbeats 4000000
namespace Go.Z
open Go Go.Abs
noncomputable def f177 (a0:Int) (c0_0:Option (List GPart)):Option Bool:=
 cond (decide (a0 < 0))
  (some true)
  (some (decide (((c0_0.getD []).length:Int)≤a0)))
theorem W177 {a0:Int} {c0_0:Option (List GPart)} {r} (h:f177 a0 c0_0=some r):callFn pr (X pr) 177 [.int .i64 a0,.ptr 0 0] [.cells [(sl 8 vpart c0_0,false)]]=some (.bool r,false,[.cells [(sl 8 vpart c0_0,false)]]):=by
 unfold f177 at h
 rcases cond_split h with ⟨h1,h⟩ | ⟨h1,h⟩
 ·have hr:true=r:=Option.some.inj h
  subst hr
  rw [callFn_at (show pr.fns 177=some c177 from rfl) (by simp)]
  simp only [go_sem,seval,c177,h1] <;> rfl
 ·have hr:decide (((c0_0.getD []).length:Int)≤a0)=r:=Option.some.inj h
  subst hr
  rw [callFn_at (show pr.fns 177=some c177 from rfl) (by simp)]
  simp only [go_sem,seval,c177,h1] <;> rfl
noncomputable def s208_0 (a0:Option (List Int)) (c0_0:Option (List GPart)) (s0:Int):Option (Int ⊕ (Int ⊕ Int)):=
 cond (decide (s0 < ((a0.getD []).length:Int)))
  (obind (idxO (a0.getD []) s0) fun v14=>
  obind (f177 v14 c0_0) fun v16=>
  cond v16
   (some (.inr (.inl s0)))
   (some (.inl (wrapF .i64 (s0 + 1)))))
  (some (.inr (.inr s0)))
def St208_0 (a0:Option (List Int)) (c0_0:Option (List GPart)) (s0:Int):ASt:=⟨[(0,sl 1 vint a0,false),(1,.fn (.func 177) [] [.ptr 0 0],false),(7,.int .i64 ((a0.getD []).length:Int),false),(8,.int .i64 s0,false)],[.cells [(sl 8 vpart c0_0,false)]]⟩
def Ex208_0 (a0:Option (List Int)) (c0_0:Option (List GPart)):Int ⊕ Int→AExit × ASt
 | .inl d=>(.ret,⟨[(4,.int .i64 d,false)],[.cells [(sl 8 vpart c0_0,false)]]⟩)
 | .inr d=>(.exit 0,⟨[(0,sl 1 vint a0,false),(1,.fn (.func 177) [] [.ptr 0 0],false),(7,.int .i64 ((a0.getD []).length:Int),false),(8,.int .i64 d,false),(9,.bool false,false)],[.cells [(sl 8 vpart c0_0,false)]]⟩)
theorem b208_0 (a0:Option (List Int)) (c0_0:Option (List GPart)) (s0:Int) (r) (h:s208_0 a0 c0_0 s0=some r):stepO pr c208_0 (St208_0 a0 c0_0) (Ex208_0 a0 c0_0) s0 r:=by
 unfold s208_0 at h
 rcases cond_split h with ⟨h13,h⟩ | ⟨h13,h⟩
 ·obtain ⟨v14,h15,h⟩:=obind_some h
  obtain ⟨v16,h17,h⟩:=obind_some h
  have wh17:callFn pr (X pr) 177 [.int .i64 v14,.ptr 0 0] [.cells [(sl 8 vpart c0_0,false)]]=some (.bool v16,false,[.cells [(sl 8 vpart c0_0,false)]]):=W177 h17
  rcases cond_split h with ⟨h18,h⟩ | ⟨h18,h⟩
  ·cases h
   exact stepO_out (by simp only [go_sem,seval,c208_0,St208_0,h13,idxR_O h15,wh17,h18,Ex208_0] <;> rfl)
  ·cases h
   exact stepO_in (st':=⟨[(0,sl 1 vint a0,false),(1,.fn (.func 177) [] [.ptr 0 0],false),(7,.int .i64 ((a0.getD []).length:Int),false),(8,.int .i64 (wrapF .i64 (s0 + 1)),false)],[.cells [(sl 8 vpart c0_0,false)]]⟩) (by simp only [go_sem,seval,c208_0,St208_0,h13,idxR_O h15,wh17,h18] <;> rfl) (gc_same (Nat.le_refl _))
 ·cases h
  exact stepO_out (by simp only [go_sem,seval,c208_0,St208_0,h13,Ex208_0] <;> rfl)
theorem l208_0 (a0:Option (List Int)) (c0_0:Option (List GPart)) {s0:Int} {d} (h:itO (s208_0 a0 c0_0) s0=some d):X pr (.loop c208_0) (St208_0 a0 c0_0 s0)=some (Ex208_0 a0 c0_0 d):=X_itO (b208_0 a0 c0_0) (fun d=>by rcases d with d|d <;> (intro hh; cases hh)) h
noncomputable def f208 (a0:Option (List Int)) (c0_0:Option (List GPart)):Option Int:=
 obind (itO (s208_0 a0 c0_0) 0) fun d19=>match d19 with
  | .inl d21=>
   some d21
  | .inr d22=>
   some (-1)
theorem W208 {a0:Option (List Int)} {c0_0:Option (List GPart)} {r} (h:f208 a0 c0_0=some r):callFn pr (X pr) 208 [sl 1 vint a0,.fn (.func 177) [] [.ptr 0 0]] [.cells [(sl 8 vpart c0_0,false)]]=some (.int .i64 r,false,[.cells [(sl 8 vpart c0_0,false)]]):=by
 unfold f208 at h
 obtain ⟨d19,h20,h⟩:=obind_some h
 rcases d19 with d21 | d22
 ·have wh20:X pr (.loop c208_0) ⟨[(0,sl 1 vint a0,false),(1,.fn (.func 177) [] [.ptr 0 0],false),(7,.int .i64 ((a0.getD []).length:Int),false),(8,.int .i64 0,false)],[.cells [(sl 8 vpart c0_0,false)]]⟩=some (.ret,⟨[(4,.int .i64 d21,false)],[.cells [(sl 8 vpart c0_0,false)]]⟩):=l208_0 a0 c0_0 h20
  have hr:d21=r:=Option.some.inj h
  subst hr
  rw [callFn_at (show pr.fns 208=some c208 from rfl) (by simp)]
  simp only [go_sem,seval,c208,wh20] <;> rfl
 ·have wh20:X pr (.loop c208_0) ⟨[(0,sl 1 vint a0,false),(1,.fn (.func 177) [] [.ptr 0 0],false),(7,.int .i64 ((a0.getD []).length:Int),false),(8,.int .i64 0,false)],[.cells [(sl 8 vpart c0_0,false)]]⟩=some (.exit 0,⟨[(0,sl 1 vint a0,false),(1,.fn (.func 177) [] [.ptr 0 0],false),(7,.int .i64 ((a0.getD []).length:Int),false),(8,.int .i64 d22,false),(9,.bool false,false)],[.cells [(sl 8 vpart c0_0,false)]]⟩):=l208_0 a0 c0_0 h20
  have hr:(-1)=r:=Option.some.inj h
  subst hr
  rw [callFn_at (show pr.fns 208=some c208 from rfl) (by simp)]
  simp only [go_sem,seval,c208,wh20] <;> rfl
noncomputable def f176 (a0:Option (List Int)) (c0_0:Option (List GPart)):Option Bool:=
 obind (f208 a0 c0_0) fun v1=>
 some (decide (0≤v1))
theorem W176 {a0:Option (List Int)} {c0_0:Option (List GPart)} {r} (h:f176 a0 c0_0=some r):callFn pr (X pr) 176 [sl 1 vint a0,.fn (.func 177) [] [.ptr 0 0]] [.cells [(sl 8 vpart c0_0,false)]]=some (.bool r,false,[.cells [(sl 8 vpart c0_0,false)]]):=by
 unfold f176 at h
 obtain ⟨v1,h2,h⟩:=obind_some h
 have wh2:callFn pr (X pr) 208 [sl 1 vint a0,.fn (.func 177) [] [.ptr 0 0]] [.cells [(sl 8 vpart c0_0,false)]]=some (.int .i64 v1,false,[.cells [(sl 8 vpart c0_0,false)]]):=W208 h2
 have hr:decide (0≤v1)=r:=Option.some.inj h
 subst hr
 rw [callFn_at (show pr.fns 176=some c176 from rfl) (by simp)]
 simp only [go_sem,seval,c176,wh2] <;> rfl
noncomputable def f133 (a0:Option (List GPart)) (a1:Option (List Int)):Option Int:=
 obind (f176 a1 a0) fun v1=>
 obind (f23 a0) fun v3=>
 obind (f106 (decide (3 < ((a1.getD []).length:Int))) 5) fun v5=>
 obind (f106 v1 10) fun v7=>
 obind (f105 (some [v3,v5,v7])) fun v9=>
 some v9
theorem W133 {a0:Option (List GPart)} {a1:Option (List Int)} {r} (h:f133 a0 a1=some r):callIso pr (X pr) 133 [sl 8 vpart a0,sl 1 vint a1]=some (.int .i64 r,false):=by
 unfold f133 at h
 obtain ⟨v1,h2,h⟩:=obind_some h
 have wh2:callFn pr (X pr) 176 [sl 1 vint a1,.fn (.func 177) [] [.ptr 0 0]] [.cells [(sl 8 vpart a0,false)]]=some (.bool v1,false,[.cells [(sl 8 vpart a0,false)]]):=W176 h2
 obtain ⟨v3,h4,h⟩:=obind_some h
 obtain ⟨v5,h6,h⟩:=obind_some h
 have wh6:callIso pr (X pr) 106 [.bool (decide (3 < ((a1.getD []).length:Int))),.int .i64 5]=some (.int .i64 v5,false):=W106 h6
 obtain ⟨v7,h8,h⟩:=obind_some h
 obtain ⟨v9,h10,h⟩:=obind_some h
 have wh10:callIso pr (X pr) 105 [.list false 1 [.int .i64 v3,.int .i64 v5,.int .i64 v7]]=some (.int .i64 v9,false):=W105 h10
 have hr:v9=r:=Option.some.inj h
 subst hr
 refine iso_F rfl ?_ (fun _=>by first | rfl | simp only [go_sem,seval]) (by first | rfl | simp only [go_sem,seval])
 rw [callFn_at (show pr.fns 133=some c133 from rfl) (by simp)]
 simp only [go_sem,seval,c133,wh2,W23 h4,wh6,W106 h8,wh10]
 exact ⟨_,rfl⟩
noncomputable def f30 (a0:Option (List Int)):Option (Option (List Int)):=
 obind (apO (some []) (a0.getD [])) fun v1=>
 some v1
theorem W30 {a0:Option (List Int)} {r} (h:f30 a0=some r):callIso pr (X pr) 30 [sl 1 vint a0]=some (sl 1 vint r,true):=by
 unfold f30 at h
 obtain ⟨v1,h2,h⟩:=obind_some h
 have hr:v1=r:=Option.some.inj h
 subst hr
 have this:∃ hh,callFn pr (X pr) 30 [sl 1 vint a0] []=some (sl 1 vint v1,true,hh):=by
  rw [callFn_at (show pr.fns 30=some c30 from rfl) (by simp)]
  simp only [go_sem,seval,c30,app_lit_O h2]
  exact ⟨_,rfl⟩
 obtain ⟨hh,this⟩:=this
 exact callIso_of_dyn rfl this (by first | rfl | simp only [go_sem,seval]) (by first | rfl | simp only [go_sem,seval]) (by first | rfl | simp only [go_sem,seval])
noncomputable def s33_0 (a0:Option (List GPart)) (a1:Option (List Int)) (s0:Int):Option (Int ⊕ (Unit ⊕ Int)):=
 cond (decide (s0 < ((a1.getD []).length:Int)))
  (obind (idxO (a1.getD []) s0) fun v13=>
  cond (decide (v13 < 0))
   (some (.inr (.inl ())))
   (cond (decide (((a0.getD []).length:Int)≤v13))
    (some (.inr (.inl ())))
    (some (.inl (wrapF .i64 (s0 + 1))))))
  (some (.inr (.inr s0)))
def St33_0 (a0:Option (List GPart)) (a1:Option (List Int)) (s0:Int):ASt:=⟨[(0,sl 8 vpart a0,false),(1,sl 1 vint a1,false),(5,.int .i64 s0,false)],[]⟩
def Ex33_0 (a0:Option (List GPart)) (a1:Option (List Int)):Unit ⊕ Int→AExit × ASt
 | .inl d=>(.ret,⟨[(4,.int .i64 10,false)],[]⟩)
 | .inr d=>(.exit 0,⟨[(0,sl 8 vpart a0,false),(1,sl 1 vint a1,false),(5,.int .i64 d,false),(12,.bool false,false)],[]⟩)
theorem b33_0 (a0:Option (List GPart)) (a1:Option (List Int)) (s0:Int) (r) (h:s33_0 a0 a1 s0=some r):stepO pr c33_0 (St33_0 a0 a1) (Ex33_0 a0 a1) s0 r:=by
 unfold s33_0 at h
 rcases cond_split h with ⟨h12,h⟩ | ⟨h12,h⟩
 ·obtain ⟨v13,h14,h⟩:=obind_some h
  rcases cond_split h with ⟨h15,h⟩ | ⟨h15,h⟩
  ·cases h
   exact stepO_out (by simp only [go_sem,seval,c33_0,St33_0,h12,idxR_O h14,h15,Ex33_0] <;> rfl)
  ·rcases cond_split h with ⟨h16,h⟩ | ⟨h16,h⟩
   ·cases h
    exact stepO_out (by simp only [go_sem,seval,c33_0,St33_0,h12,idxR_O h14,h15,h16,Ex33_0] <;> rfl)
   ·cases h
    exact stepO_in (st':=⟨[(0,sl 8 vpart a0,false),(1,sl 1 vint a1,false),(5,.int .i64 (wrapF .i64 (s0 + 1)),false)],[]⟩) (by simp only [go_sem,seval,c33_0,St33_0,h12,idxR_O h14,h15,h16] <;> rfl) (gc_same (Nat.le_refl _))
 ·cases h
  exact stepO_out (by simp only [go_sem,seval,c33_0,St33_0,h12,Ex33_0] <;> rfl)
theorem l33_0 (a0:Option (List GPart)) (a1:Option (List Int)) {s0:Int} {d} (h:itO (s33_0 a0 a1) s0=some d):X pr (.loop c33_0) (St33_0 a0 a1 s0)=some (Ex33_0 a0 a1 d):=X_itO (b33_0 a0 a1) (fun d=>by rcases d with d|d <;> (intro hh; cases hh)) h
noncomputable def f33 (a0:Option (List GPart)) (a1:Option (List Int)):Option Int:=
 cond (decide (3 < ((a1.getD []).length:Int)))
  (some 5)
  (obind (itO (s33_0 a0 a1) 0) fun d17=>match d17 with
   | .inl d19=>
    some 10
   | .inr d20=>
    some 0)
theorem W33 {a0:Option (List GPart)} {a1:Option (List Int)} {r} (h:f33 a0 a1=some r):callIso pr (X pr) 33 [sl 8 vpart a0,sl 1 vint a1]=some (.int .i64 r,false):=by
 unfold f33 at h
 rcases cond_split h with ⟨h1,h⟩ | ⟨h1,h⟩
 ·have hr:5=r:=Option.some.inj h
  subst hr
  refine iso_F rfl ?_ (fun _=>by first | rfl | simp only [go_sem,seval]) (by first | rfl | simp only [go_sem,seval])
  rw [callFn_at (show pr.fns 33=some c33 from rfl) (by simp)]
  simp only [go_sem,seval,c33,h1]
  exact ⟨_,rfl⟩
 ·obtain ⟨d17,h18,h⟩:=obind_some h
  rcases d17 with d19 | d20
  ·have wh18:X pr (.loop c33_0) ⟨[(0,sl 8 vpart a0,false),(1,sl 1 vint a1,false),(5,.int .i64 0,false)],[]⟩=some (.ret,⟨[(4,.int .i64 10,false)],[]⟩):=l33_0 a0 a1 h18
   have hr:10=r:=Option.some.inj h
   subst hr
   refine iso_F rfl ?_ (fun _=>by first | rfl | simp only [go_sem,seval]) (by first | rfl | simp only [go_sem,seval])
   rw [callFn_at (show pr.fns 33=some c33 from rfl) (by simp)]
   simp only [go_sem,seval,c33,h1,wh18]
   exact ⟨_,rfl⟩
  ·have wh18:X pr (.loop c33_0) ⟨[(0,sl 8 vpart a0,false),(1,sl 1 vint a1,false),(5,.int .i64 0,false)],[]⟩=some (.exit 0,⟨[(0,sl 8 vpart a0,false),(1,sl 1 vint a1,false),(5,.int .i64 d20,false),(12,.bool false,false)],[]⟩):=l33_0 a0 a1 h18
   have hr:0=r:=Option.some.inj h
   subst hr
   refine iso_F rfl ?_ (fun _=>by first | rfl | simp only [go_sem,seval]) (by first | rfl | simp only [go_sem,seval])
   rw [callFn_at (show pr.fns 33=some c33 from rfl) (by simp)]
   simp only [go_sem,seval,c33,h1,wh18]
   exact ⟨_,rfl⟩
noncomputable def f36 (a0:Option (List GPart)) (a1:Option (List GBand)) (a2:Int):Option Bool:=
 obind (f17 a0) fun v1=>
 cond v1
  (cond (decide (((a1.getD []).length:Int)≤4))
   (cond (decide (a2≤2))
    (some true)
    (cond (decide (3 < a2))
     (some true)
     (some (decide (((a0.getD []).length:Int)≤2)))))
   (cond (decide (((a1.getD []).length:Int)=9))
    (cond (decide (a2≤2))
     (some true)
     (cond (decide (3 < a2))
      (some true)
      (some (decide (((a0.getD []).length:Int)≤2)))))
    (some false)))
  (some false)
theorem W36 {a0:Option (List GPart)} {a1:Option (List GBand)} {a2:Int} {r} (h:f36 a0 a1 a2=some r):callIso pr (X pr) 36 [sl 8 vpart a0,sl 5 vband a1,.int .i64 a2]=some (.bool r,false):=by
 unfold f36 at h
 obtain ⟨v1,h2,h⟩:=obind_some h
 rcases cond_split h with ⟨h3,h⟩ | ⟨h3,h⟩
 ·rcases cond_split h with ⟨h4,h⟩ | ⟨h4,h⟩
  ·rcases cond_split h with ⟨h5,h⟩ | ⟨h5,h⟩
   ·have hr:true=r:=Option.some.inj h
    subst hr
    refine iso_F rfl ?_ (fun _=>by first | rfl | simp only [go_sem,seval]) (by first | rfl | simp only [go_sem,seval])
    rw [callFn_at (show pr.fns 36=some c36 from rfl) (by simp)]
    simp only [go_sem,seval,c36,W17 h2,h3,h4,h5]
    exact ⟨_,rfl⟩
   ·rcases cond_split h with ⟨h6,h⟩ | ⟨h6,h⟩
    ·have hr:true=r:=Option.some.inj h
     subst hr
     refine iso_F rfl ?_ (fun _=>by first | rfl | simp only [go_sem,seval]) (by first | rfl | simp only [go_sem,seval])
     rw [callFn_at (show pr.fns 36=some c36 from rfl) (by simp)]
     simp only [go_sem,seval,c36,W17 h2,h3,h4,h5,h6]
     exact ⟨_,rfl⟩
    ·have hr:decide (((a0.getD []).length:Int)≤2)=r:=Option.some.inj h
     subst hr
     refine iso_F rfl ?_ (fun _=>by first | rfl | simp only [go_sem,seval]) (by first | rfl | simp only [go_sem,seval])
     rw [callFn_at (show pr.fns 36=some c36 from rfl) (by simp)]
     simp only [go_sem,seval,c36,W17 h2,h3,h4,h5,h6]
     exact ⟨_,rfl⟩
  ·rcases cond_split h with ⟨h7,h⟩ | ⟨h7,h⟩
   ·rcases cond_split h with ⟨h8,h⟩ | ⟨h8,h⟩
    ·have hr:true=r:=Option.some.inj h
     subst hr
     refine iso_F rfl ?_ (fun _=>by first | rfl | simp only [go_sem,seval]) (by first | rfl | simp only [go_sem,seval])
     rw [callFn_at (show pr.fns 36=some c36 from rfl) (by simp)]
     simp only [go_sem,seval,c36,W17 h2,h3,h4,h7,h8]
     exact ⟨_,rfl⟩
    ·rcases cond_split h with ⟨h9,h⟩ | ⟨h9,h⟩
     ·have hr:true=r:=Option.some.inj h
      subst hr
      refine iso_F rfl ?_ (fun _=>by first | rfl | simp only [go_sem,seval]) (by first | rfl | simp only [go_sem,seval])
      rw [callFn_at (show pr.fns 36=some c36 from rfl) (by simp)]
      simp only [go_sem,seval,c36,W17 h2,h3,h4,h7,h8,h9]
      exact ⟨_,rfl⟩
     ·have hr:decide (((a0.getD []).length:Int)≤2)=r:=Option.some.inj h
      subst hr
      refine iso_F rfl ?_ (fun _=>by first | rfl | simp only [go_sem,seval]) (by first | rfl | simp only [go_sem,seval])
      rw [callFn_at (show pr.fns 36=some c36 from rfl) (by simp)]
      simp only [go_sem,seval,c36,W17 h2,h3,h4,h7,h8,h9]
      exact ⟨_,rfl⟩
   ·have hr:false=r:=Option.some.inj h
    subst hr
    refine iso_F rfl ?_ (fun _=>by first | rfl | simp only [go_sem,seval]) (by first | rfl | simp only [go_sem,seval])
    rw [callFn_at (show pr.fns 36=some c36 from rfl) (by simp)]
    simp only [go_sem,seval,c36,W17 h2,h3,h4,h7]
    exact ⟨_,rfl⟩
 ·have hr:false=r:=Option.some.inj h
  subst hr
  refine iso_F rfl ?_ (fun _=>by first | rfl | simp only [go_sem,seval]) (by first | rfl | simp only [go_sem,seval])
  rw [callFn_at (show pr.fns 36=some c36 from rfl) (by simp)]
  simp only [go_sem,seval,c36,W17 h2,h3]
  exact ⟨_,rfl⟩
end Go.Z
/-
 Chapter 4: the extremes of a choice,in the program.
-/
namespace Go.Z
open Go Go.Abs
def a111_1:ACode:=pcL c111.body
def a111_2:ACode:=pcL (pcR c111.body)
def a111_3:ACode:=pcL (pcR (pcR c111.body))
def a111_4:ACode:=pcL (pcL (pcR (pcR (pcR c111.body))))
def a111_5:ACode:=pcR (pcR (pcR (pcR c111.body)))
noncomputable def f111 (ps:Option (List GPart)) (ch:Option (List Int)) (w:Int) (c:Bool):Option (GQuad × Int):=
 obind (f133 ps ch) fun e1=>obind (f122 w) fun e2=>obind (f105 (some [e1,e2])) fun e=>
 cond (decide (e=0)) (obind (vis (y111 w) ch ps c (ch.getD []).length none ⟨0,0,0,0⟩) fun r=>match r with
  | .inl s=>some (s,0)
  | .inr d=>some (⟨0,0,0,0⟩,d.1)) (some (⟨0,0,0,0⟩,e))
theorem W159 {ps:Option (List GPart)} {ch:Option (List Int)} {c:Bool}:callIso pr (X pr) 159 [sl 8 vpart ps,sl 1 vint ch,.bool c]=some (.fn (.func 196) [] [.vptr (sl 1 vint ch),.vptr (sl 8 vpart ps),.vptr (.bool c)],false):=by
 have this:∃ hh,callFn pr (X pr) 159 [sl 8 vpart ps,sl 1 vint ch,.bool c] []=some (.fn (.func 196) [] [.vptr (sl 1 vint ch),.vptr (sl 8 vpart ps),.vptr (.bool c)],false,hh):=by
  rw [callFn_at (show pr.fns 159=some c159 from rfl) (by simp)]
  simp only [go_sem,seval,c159]
  exact ⟨_,rfl⟩
 obtain ⟨hh,this⟩:=this
 have h1:Abs.below 0 (sl 1 vint ch)=true:=by simp only [go_sem,seval]
 have h2:Abs.below 0 (sl 8 vpart ps)=true:=by simp only [go_sem,seval]
 have hp:Abs.below 0 (.fn (.func 196) [] [.vptr (sl 1 vint ch),.vptr (sl 8 vpart ps),.vptr (.bool c)])=true:=by
  show (true && (Abs.below 0 (sl 1 vint ch) && (Abs.below 0 (sl 8 vpart ps) && (true && true))))=true
  rw [h1,h2]; rfl
 exact callIso_of rfl this (by first | rfl | simp only [go_sem,seval]) (by first | exact hp | simp only [go_sem,seval])
theorem W111 {ps:Option (List GPart)} {ch:Option (List Int)} {w:Int} {c:Bool} {r} (h:f111 ps ch w c=some r):callIso pr (X pr) 111 [sl 8 vpart ps,sl 1 vint ch,.int .i64 w,.bool c]=some (.tup [.agg [.int .i64 r.1.a,.int .i64 r.1.b,.int .i64 r.1.c,.int .i64 r.1.d],.int .i64 r.2],false):=by
 unfold f111 at h
 obtain ⟨e1,h1,h⟩:=obind_some h
 obtain ⟨e2,h2,h⟩:=obind_some h
 obtain ⟨e,h3,h⟩:=obind_some h
 have g1:=W133 h1
 have g2:=W122 h2
 have g3:callIso pr (X pr) 105 [.list false 1 [.int .i64 e1,.int .i64 e2]]=some (.int .i64 e,false):=W105 h3
 have g159:=W159 (ps:=ps) (ch:=ch) (c:=c)
 rcases cond_split h with ⟨h4,k⟩ | ⟨h4,k⟩
 ·obtain ⟨q,h5,k⟩:=obind_some k
  have hx:=range111 ch ps c w h5
  have h4':e=0:=by simpa using h4
  cases q with
  | inl s=>
   cases k
   have this:∃ hh,callFn pr (X pr) 111 [sl 8 vpart ps,sl 1 vint ch,.int .i64 w,.bool c] []=some (.tup [.agg [.int .i64 s.a,.int .i64 s.b,.int .i64 s.c,.int .i64 s.d],.int .i64 0],false,hh):=by
    rw [callFn_at (show pr.fns 111=some ⟨60,.seq a111_1 (.seq a111_2 (.seq a111_3 (.seq (.seq a111_4 (.block 0 rf111)) a111_5))),[.cell 8 true 4,.cell 9 false 1]⟩ from rfl) (by simp)]
    simp only [E111,qcs] at hx
    simp only [go_sem,seval,a111_1,a111_2,a111_3,a111_4,a111_5,pcL,pcR,c111,g1,g2,g3,h4,h4',g159,hx]
    exact ⟨_,rfl⟩
   obtain ⟨hh,this⟩:=this
   exact callIso_of rfl this (by first | rfl | simp only [go_sem,seval]) (by first | rfl | simp only [go_sem,seval])
  | inr d=>
   cases k
   have this:∃ hh,callFn pr (X pr) 111 [sl 8 vpart ps,sl 1 vint ch,.int .i64 w,.bool c] []=some (.tup [.agg [.int .i64 0,.int .i64 0,.int .i64 0,.int .i64 0],.int .i64 d.1],false,hh):=by
    rw [callFn_at (show pr.fns 111=some ⟨60,.seq a111_1 (.seq a111_2 (.seq a111_3 (.seq (.seq a111_4 (.block 0 rf111)) a111_5))),[.cell 8 true 4,.cell 9 false 1]⟩ from rfl) (by simp)]
    simp only [E111,qcs] at hx
    simp only [go_sem,seval,a111_1,a111_2,a111_3,a111_4,a111_5,pcL,pcR,c111,g1,g2,g3,h4,h4',g159,hx]
    exact ⟨_,rfl⟩
   obtain ⟨hh,this⟩:=this
   exact callIso_of rfl this (by first | rfl | simp only [go_sem,seval]) (by first | rfl | simp only [go_sem,seval])
 ·cases k
  have h4':¬ e=0:=by simpa using h4
  have this:∃ hh,callFn pr (X pr) 111 [sl 8 vpart ps,sl 1 vint ch,.int .i64 w,.bool c] []=some (.tup [.agg [.int .i64 0,.int .i64 0,.int .i64 0,.int .i64 0],.int .i64 e],false,hh):=by
   rw [callFn_at (show pr.fns 111=some ⟨60,.seq a111_1 (.seq a111_2 (.seq a111_3 (.seq (.seq a111_4 (.block 0 rf111)) a111_5))),[.cell 8 true 4,.cell 9 false 1]⟩ from rfl) (by simp)]
   simp only [go_sem,seval,a111_1,a111_2,a111_3,a111_4,a111_5,pcL,pcR,c111,g1,g2,g3,h4,h4',g159]
   exact ⟨_,rfl⟩
  obtain ⟨hh,this⟩:=this
  exact callIso_of rfl this (by first | rfl | simp only [go_sem,seval]) (by first | rfl | simp only [go_sem,seval])
end Go.Z
