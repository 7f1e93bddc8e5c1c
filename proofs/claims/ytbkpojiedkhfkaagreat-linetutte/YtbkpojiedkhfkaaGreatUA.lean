/-
  LineTutte: the law's own pairing and parts: functions that mirror the runs, and the runs (printed by walk.py).
-/
import Derived.Test.YtbkpojiedkhfkaaGreatV6
import Derived.Test.YtbkpojiedkhfkaaGreatU9
set_option linter.unusedVariables false
set_option linter.unusedSimpArgs false
set_option maxRecDepth 100000
set_option maxHeartbeats 4000000
namespace Go.Z
open Go Go.Abs
noncomputable def s58_0 (a0:GUnit) (a1:GUnit) (s0:Int × Int):Option ((Int × Int) ⊕ ((Int × Int))):=
 cond (decide (s0.2 < ((a0.values.getD []).length:Int)))
  (obind (idxO (a0.values.getD []) s0.2) fun v12=>
  obind (idxO (a1.values.getD []) s0.2) fun v14=>
  some (.inl (max (max s0.1 (wrapF .i64 (v12 - v14))) (wrapF .i64 (v14 - v12)),wrapF .i64 (s0.2 + 1))))
  (some (.inr (s0.1,s0.2)))
def St58_0 (a0:GUnit) (a1:GUnit) (s0:Int × Int):ASt:=⟨[(3,.ptr 1 0,false),(5,.int .i64 s0.1,false),(9,sl 1 vint a0.values,false),(10,.int .i64 ((a0.values.getD []).length:Int),false),(11,.int .i64 s0.2,false)],[.cells [(.str a0.serial,false),(sl 1 vint a0.values,false)],.cells [(.str a1.serial,false),(sl 1 vint a1.values,false)]]⟩
def Ex58_0 (a0:GUnit) (a1:GUnit) (d:(Int × Int)):AExit × ASt:=(.exit 0,⟨[(3,.ptr 1 0,false),(5,.int .i64 d.1,false),(9,sl 1 vint a0.values,false),(10,.int .i64 ((a0.values.getD []).length:Int),false),(11,.int .i64 d.2,false),(12,.bool false,false)],[.cells [(.str a0.serial,false),(sl 1 vint a0.values,false)],.cells [(.str a1.serial,false),(sl 1 vint a1.values,false)]]⟩)
theorem b58_0 (a0:GUnit) (a1:GUnit) (s0:Int × Int) (r) (h:s58_0 a0 a1 s0=some r):stepO pr c58_0 (St58_0 a0 a1) (Ex58_0 a0 a1) s0 r:=by
 unfold s58_0 at h
 rcases cond_split h with ⟨h11,h⟩ | ⟨h11,h⟩
 ·obtain ⟨v12,h13,h⟩:=obind_some h
  obtain ⟨v14,h15,h⟩:=obind_some h
  cases h
  exact stepO_in (st':=⟨[(3,.ptr 1 0,false),(5,.int .i64 (max (max s0.1 (wrapF .i64 (v12 - v14))) (wrapF .i64 (v14 - v12))),false),(9,sl 1 vint a0.values,false),(10,.int .i64 ((a0.values.getD []).length:Int),false),(11,.int .i64 (wrapF .i64 (s0.2 + 1)),false)],[.cells [(.str a0.serial,false),(sl 1 vint a0.values,false)],.cells [(.str a1.serial,false),(sl 1 vint a1.values,false)]]⟩) (by simp only [go_sem,seval,c58_0,St58_0,h11,idxR_O h13,idxR_O h15] <;> rfl) (gc_same (Nat.le_refl _))
 ·cases h
  exact stepO_out (by simp only [go_sem,seval,c58_0,St58_0,h11,Ex58_0] <;> rfl)
theorem l58_0 (a0:GUnit) (a1:GUnit) {s0:Int × Int} {d} (h:itO (s58_0 a0 a1) s0=some d):X pr (.loop c58_0) (St58_0 a0 a1 s0)=some (Ex58_0 a0 a1 d):=X_itO (b58_0 a0 a1) (fun d hh=>by cases hh) h
noncomputable def f58 (a0:GUnit) (a1:GUnit):Option Int:=
 obind (itO (s58_0 a0 a1) (0,0)) fun d16=>
 some d16.1
theorem W58 {a0:GUnit} {a1:GUnit} {r} (h:f58 a0 a1=some r):callIso pr (X pr) 58 [.agg [.str a0.serial,sl 1 vint a0.values],.agg [.str a1.serial,sl 1 vint a1.values]]=some (.int .i64 r,false):=by
 unfold f58 at h
 obtain ⟨d16,h17,h⟩:=obind_some h
 have wh17:X pr (.loop c58_0) ⟨[(3,.ptr 1 0,false),(5,.int .i64 0,false),(9,sl 1 vint a0.values,false),(10,.int .i64 ((a0.values.getD []).length:Int),false),(11,.int .i64 0,false)],[.cells [(.str a0.serial,false),(sl 1 vint a0.values,false)],.cells [(.str a1.serial,false),(sl 1 vint a1.values,false)]]⟩=some (.exit 0,⟨[(3,.ptr 1 0,false),(5,.int .i64 d16.1,false),(9,sl 1 vint a0.values,false),(10,.int .i64 ((a0.values.getD []).length:Int),false),(11,.int .i64 d16.2,false),(12,.bool false,false)],[.cells [(.str a0.serial,false),(sl 1 vint a0.values,false)],.cells [(.str a1.serial,false),(sl 1 vint a1.values,false)]]⟩):=l58_0 a0 a1 h17
 have hr:d16.1=r:=Option.some.inj h
 subst hr
 have this:∃ hh,callFn pr (X pr) 58 [.agg [.str a0.serial,sl 1 vint a0.values],.agg [.str a1.serial,sl 1 vint a1.values]] []=some (.int .i64 d16.1,false,hh):=by
  rw [callFn_at (show pr.fns 58=some c58 from rfl) (by simp)]
  simp only [go_sem,seval,c58,wh17]
  exact ⟨_,rfl⟩
 obtain ⟨hh,this⟩:=this
 exact callIso_of rfl this (by first | rfl | simp only [go_sem,seval]) (by first | rfl | simp only [go_sem,seval])
noncomputable def s83_0 (a0:Option (List GUnit)) (a1:Int) (a2:List Bool) (s0:Int):Option (Int ⊕ (Int)):=
 cond (decide (s0 < ((a0.getD []).length:Int)))
  (obind (idxT 8 a2 s0) fun v12=>
  cond v12
   (some (.inl (wrapF .i64 (s0 + 1))))
   (some (.inr s0)))
  (some (.inr s0))
def St83_0 (a0:Option (List GUnit)) (a1:Int) (a2:List Bool) (s0:Int):ASt:=⟨[(0,sl 2 vunit a0,false),(1,.int .i64 a1,false),(5,.ptr 0 0,false),(7,.int .i64 s0,false)],[.cells (tcl a2)]⟩
def Ex83_0 (a0:Option (List GUnit)) (a1:Int) (a2:List Bool) (d:Int):AExit × ASt:=(.exit 0,⟨[(0,sl 2 vunit a0,false),(1,.int .i64 a1,false),(5,.ptr 0 0,false),(7,.int .i64 d,false),(17,.bool false,false)],[.cells (tcl a2)]⟩)
theorem b83_0 (a0:Option (List GUnit)) (a1:Int) (a2:List Bool) (s0:Int) (r) (h:s83_0 a0 a1 a2 s0=some r):stepO pr c83_0 (St83_0 a0 a1 a2) (Ex83_0 a0 a1 a2) s0 r:=by
 unfold s83_0 at h
 rcases cond_split h with ⟨h11,h⟩ | ⟨h11,h⟩
 ·obtain ⟨v12,h13,h⟩:=obind_some h
  rcases cond_split h with ⟨h14,h⟩ | ⟨h14,h⟩
  ·cases h
   exact stepO_in (st':=⟨[(0,sl 2 vunit a0,false),(1,.int .i64 a1,false),(5,.ptr 0 0,false),(7,.int .i64 (wrapF .i64 (s0 + 1)),false)],[.cells (tcl a2)]⟩) (by simp only [go_sem,seval,c83_0,St83_0,h11,idx_arrB_O h13,ld_b_O h13,st_b_O h13,h14] <;> rfl) (gc_same (Nat.le_refl _))
  ·cases h
   exact stepO_out (by simp only [go_sem,seval,c83_0,St83_0,h11,idx_arrB_O h13,ld_b_O h13,st_b_O h13,h14,Ex83_0] <;> rfl)
 ·cases h
  exact stepO_out (by simp only [go_sem,seval,c83_0,St83_0,h11,Ex83_0] <;> rfl)
theorem l83_0 (a0:Option (List GUnit)) (a1:Int) (a2:List Bool) {s0:Int} {d} (h:itO (s83_0 a0 a1 a2) s0=some d):X pr (.loop c83_0) (St83_0 a0 a1 a2 s0)=some (Ex83_0 a0 a1 a2 d):=X_itO (b83_0 a0 a1 a2) (fun d hh=>by cases hh) h
noncomputable def s83_1 (a0:Option (List GUnit)) (a1:Int) (rec:(Option (List GUnit))→Int→(List Bool)→Option Bool) (d15:Int) (s1:Int × (List Bool)):Option ((Int × (List Bool)) ⊕ ((List Bool) ⊕ (Int × (List Bool)))):=
 cond (decide (s1.1 < ((a0.getD []).length:Int)))
  (obind (idxT 8 s1.2 s1.1) fun v57=>
  cond v57
   (some (.inl (wrapF .i64 (s1.1 + 1),s1.2)))
   (obind (idxO (a0.getD []) d15) fun v60=>
   obind (idxO (a0.getD []) s1.1) fun v62=>
   obind (f58 v60 v62) fun v64=>
   cond (decide (a1≤v64))
    (some (.inl (wrapF .i64 (s1.1 + 1),s1.2)))
    (obind (lenO 8 (s1.2.set s1.1.toNat true)) fun v67=>
    obind (rec a0 a1 (s1.2.set s1.1.toNat true)) fun v69=>
    cond v69
     (some (.inr (.inl (s1.2.set s1.1.toNat true))))
     (obind (idxT 8 (s1.2.set s1.1.toNat true) s1.1) fun v72=>
     some (.inl (wrapF .i64 (s1.1 + 1),(s1.2.set s1.1.toNat true).set s1.1.toNat false))))))
  (some (.inr (.inr (s1.1,s1.2))))
def St83_1 (a0:Option (List GUnit)) (a1:Int) (rec:(Option (List GUnit))→Int→(List Bool)→Option Bool) (d15:Int) (s1:Int × (List Bool)):ASt:=⟨[(0,sl 2 vunit a0,false),(1,.int .i64 a1,false),(5,.ptr 0 0,false),(7,.int .i64 d15,false),(8,.int .i64 s1.1,false)],[.cells (tcl s1.2)]⟩
def Ex83_1 (a0:Option (List GUnit)) (a1:Int) (rec:(Option (List GUnit))→Int→(List Bool)→Option Bool) (d15:Int):(List Bool) ⊕ (Int × (List Bool))→AExit × ASt
 | .inl d=>(.ret,⟨[(6,.bool true,false)],[.cells (tcl d)]⟩)
 | .inr d=>(.exit 2,⟨[(0,sl 2 vunit a0,false),(1,.int .i64 a1,false),(5,.ptr 0 0,false),(7,.int .i64 d15,false),(8,.int .i64 d.1,false),(31,.bool false,false)],[.cells (tcl d.2)]⟩)
theorem b83_1 (a0:Option (List GUnit)) (a1:Int) (rec:(Option (List GUnit))→Int→(List Bool)→Option Bool) (d15:Int) (hrec:∀ {a0:Option (List GUnit)} {a1:Int} {a2:List Bool} {r},rec a0 a1 a2=some r→callIso pr (X pr) 83 [sl 2 vunit a0,.int .i64 a1,.agg (List.map AVal.bool a2)]=some (.bool r,false)) (s1:Int × (List Bool)) (r) (h:s83_1 a0 a1 rec d15 s1=some r):stepO pr c83_1 (St83_1 a0 a1 rec d15) (Ex83_1 a0 a1 rec d15) s1 r:=by
 unfold s83_1 at h
 rcases cond_split h with ⟨h56,h⟩ | ⟨h56,h⟩
 ·obtain ⟨v57,h58,h⟩:=obind_some h
  rcases cond_split h with ⟨h59,h⟩ | ⟨h59,h⟩
  ·cases h
   exact stepO_in (st':=⟨[(0,sl 2 vunit a0,false),(1,.int .i64 a1,false),(5,.ptr 0 0,false),(7,.int .i64 d15,false),(8,.int .i64 (wrapF .i64 (s1.1 + 1)),false)],[.cells (tcl s1.2)]⟩) (by simp only [go_sem,seval,c83_1,St83_1,h56,idx_arrB_O h58,ld_b_O h58,st_b_O h58,h59] <;> rfl) (gc_same (Nat.le_refl _))
  ·obtain ⟨v60,h61,h⟩:=obind_some h
   obtain ⟨v62,h63,h⟩:=obind_some h
   obtain ⟨v64,h65,h⟩:=obind_some h
   have wh65:callIso pr (X pr) 58 [.agg [.str v60.serial,sl 1 vint v60.values],.agg [.str v62.serial,sl 1 vint v62.values]]=some (.int .i64 v64,false):=W58 h65
   rcases cond_split h with ⟨h66,h⟩ | ⟨h66,h⟩
   ·cases h
    exact stepO_in (st':=⟨[(0,sl 2 vunit a0,false),(1,.int .i64 a1,false),(5,.ptr 0 0,false),(7,.int .i64 d15,false),(8,.int .i64 (wrapF .i64 (s1.1 + 1)),false)],[.cells (tcl s1.2)]⟩) (by simp only [go_sem,seval,c83_1,St83_1,h56,idx_arrB_O h58,ld_b_O h58,st_b_O h58,h59,idxR_O h61,idxR_O h63,wh65,h66] <;> rfl) (gc_same (Nat.le_refl _))
   ·obtain ⟨v67,h68,h⟩:=obind_some h
    obtain ⟨v69,h70,h⟩:=obind_some h
    have wh70:callIso pr (X pr) 83 [sl 2 vunit a0,.int .i64 a1,.agg (List.map AVal.bool (s1.2.set s1.1.toNat true))]=some (.bool v69,false):=hrec h70
    rcases cond_split h with ⟨h71,h⟩ | ⟨h71,h⟩
    ·cases h
     exact stepO_out (by simp only [go_sem,seval,c83_1,St83_1,h56,idx_arrB_O h58,ld_b_O h58,st_b_O h58,h59,idxR_O h61,idxR_O h63,wh65,h66,ld_wb h68,wh70,h71,Ex83_1] <;> rfl)
    ·obtain ⟨v72,h73,h⟩:=obind_some h
     cases h
     exact stepO_in (st':=⟨[(0,sl 2 vunit a0,false),(1,.int .i64 a1,false),(5,.ptr 0 0,false),(7,.int .i64 d15,false),(8,.int .i64 (wrapF .i64 (s1.1 + 1)),false)],[.cells (tcl ((s1.2.set s1.1.toNat true).set s1.1.toNat false))]⟩) (by simp only [go_sem,seval,c83_1,St83_1,h56,idx_arrB_O h58,ld_b_O h58,st_b_O h58,h59,idxR_O h61,idxR_O h63,wh65,h66,ld_wb h68,wh70,h71,idx_arrB_O h73,ld_b_O h73,st_b_O h73] <;> rfl) (gc_same (Nat.le_refl _))
 ·cases h
  exact stepO_out (by simp only [go_sem,seval,c83_1,St83_1,h56,Ex83_1] <;> rfl)
theorem l83_1 (a0:Option (List GUnit)) (a1:Int) (rec:(Option (List GUnit))→Int→(List Bool)→Option Bool) (d15:Int) (hrec:∀ {a0:Option (List GUnit)} {a1:Int} {a2:List Bool} {r},rec a0 a1 a2=some r→callIso pr (X pr) 83 [sl 2 vunit a0,.int .i64 a1,.agg (List.map AVal.bool a2)]=some (.bool r,false)) {s1:Int × (List Bool)} {d} (h:itO (s83_1 a0 a1 rec d15) s1=some d):X pr (.loop c83_1) (St83_1 a0 a1 rec d15 s1)=some (Ex83_1 a0 a1 rec d15 d):=X_itO (b83_1 a0 a1 rec d15 hrec) (fun d=>by rcases d with d|d <;> (intro hh; cases hh)) h
noncomputable def F83 (rec:(Option (List GUnit))→Int→(List Bool)→Option Bool) (a0:Option (List GUnit)) (a1:Int) (a2:List Bool):Option Bool:=
 obind (lenO 8 a2) fun v1=>
 obind (itO (s83_0 a0 a1 a2) 0) fun d15=>
 cond (decide (d15=((a0.getD []).length:Int)))
  (some true)
  (obind (idxT 8 a2 d15) fun v18=>
  obind (itO (s83_1 a0 a1 rec d15) (wrapF .i64 (d15 + 1),a2.set d15.toNat true)) fun d74=>match d74 with
   | .inl d76=>
    some true
   | .inr d77=>
    some false)
theorem WF83 {rec:(Option (List GUnit))→Int→(List Bool)→Option Bool} (hrec:∀ {a0:Option (List GUnit)} {a1:Int} {a2:List Bool} {r},rec a0 a1 a2=some r→callIso pr (X pr) 83 [sl 2 vunit a0,.int .i64 a1,.agg (List.map AVal.bool a2)]=some (.bool r,false)) {a0:Option (List GUnit)} {a1:Int} {a2:List Bool} {r} (h:F83 rec a0 a1 a2=some r):callIso pr (X pr) 83 [sl 2 vunit a0,.int .i64 a1,.agg (List.map AVal.bool a2)]=some (.bool r,false):=by
 unfold F83 at h
 obtain ⟨v1,h2,h⟩:=obind_some h
 obtain ⟨d15,h16,h⟩:=obind_some h
 have wh16:X pr (.loop c83_0) ⟨[(0,sl 2 vunit a0,false),(1,.int .i64 a1,false),(5,.ptr 0 0,false),(7,.int .i64 0,false)],[.cells (tcl a2)]⟩=some (.exit 0,⟨[(0,sl 2 vunit a0,false),(1,.int .i64 a1,false),(5,.ptr 0 0,false),(7,.int .i64 d15,false),(17,.bool false,false)],[.cells (tcl a2)]⟩):=l83_0 a0 a1 a2 h16
 rcases cond_split h with ⟨h17,h⟩ | ⟨h17,h⟩
 ·have hr:true=r:=Option.some.inj h
  subst hr
  have this:∃ hh,callFn pr (X pr) 83 [sl 2 vunit a0,.int .i64 a1,.agg (List.map AVal.bool a2)] []=some (.bool true,false,hh):=by
   rw [callFn_at (show pr.fns 83=some c83 from rfl) (by simp)]
   simp only [go_sem,seval,c83,box_b_O h2,wh16,h17]
   exact ⟨_,rfl⟩
  obtain ⟨hh,this⟩:=this
  exact callIso_of rfl this (by first | rfl | simp only [go_sem,seval]) (by first | rfl | simp only [go_sem,seval])
 ·obtain ⟨v18,h19,h⟩:=obind_some h
  obtain ⟨d74,h75,h⟩:=obind_some h
  rcases d74 with d76 | d77
  ·have wh75:X pr (.loop c83_1) ⟨[(0,sl 2 vunit a0,false),(1,.int .i64 a1,false),(5,.ptr 0 0,false),(7,.int .i64 d15,false),(8,.int .i64 (wrapF .i64 (d15 + 1)),false)],[.cells (tcl (a2.set d15.toNat true))]⟩=some (.ret,⟨[(6,.bool true,false)],[.cells (tcl d76)]⟩):=l83_1 a0 a1 rec d15 hrec h75
   have hr:true=r:=Option.some.inj h
   subst hr
   have this:∃ hh,callFn pr (X pr) 83 [sl 2 vunit a0,.int .i64 a1,.agg (List.map AVal.bool a2)] []=some (.bool true,false,hh):=by
    rw [callFn_at (show pr.fns 83=some c83 from rfl) (by simp)]
    simp only [go_sem,seval,c83,box_b_O h2,wh16,h17,idx_arrB_O h19,ld_b_O h19,st_b_O h19,wh75]
    exact ⟨_,rfl⟩
   obtain ⟨hh,this⟩:=this
   exact callIso_of rfl this (by first | rfl | simp only [go_sem,seval]) (by first | rfl | simp only [go_sem,seval])
  ·have wh75:X pr (.loop c83_1) ⟨[(0,sl 2 vunit a0,false),(1,.int .i64 a1,false),(5,.ptr 0 0,false),(7,.int .i64 d15,false),(8,.int .i64 (wrapF .i64 (d15 + 1)),false)],[.cells (tcl (a2.set d15.toNat true))]⟩=some (.exit 2,⟨[(0,sl 2 vunit a0,false),(1,.int .i64 a1,false),(5,.ptr 0 0,false),(7,.int .i64 d15,false),(8,.int .i64 d77.1,false),(31,.bool false,false)],[.cells (tcl d77.2)]⟩):=l83_1 a0 a1 rec d15 hrec h75
   have hr:false=r:=Option.some.inj h
   subst hr
   have this:∃ hh,callFn pr (X pr) 83 [sl 2 vunit a0,.int .i64 a1,.agg (List.map AVal.bool a2)] []=some (.bool false,false,hh):=by
    rw [callFn_at (show pr.fns 83=some c83 from rfl) (by simp)]
    simp only [go_sem,seval,c83,box_b_O h2,wh16,h17,idx_arrB_O h19,ld_b_O h19,st_b_O h19,wh75]
    exact ⟨_,rfl⟩
   obtain ⟨hh,this⟩:=this
   exact callIso_of rfl this (by first | rfl | simp only [go_sem,seval]) (by first | rfl | simp only [go_sem,seval])
noncomputable def f83:Nat→(Option (List GUnit))→Int→(List Bool)→Option Bool
 | 0=>fun _ _ _=>none
 | n + 1=>F83 (f83 n)
theorem W83:∀ (n:Nat) {a0:Option (List GUnit)} {a1:Int} {a2:List Bool} {r} (h:f83 n a0 a1 a2=some r),callIso pr (X pr) 83 [sl 2 vunit a0,.int .i64 a1,.agg (List.map AVal.bool a2)]=some (.bool r,false)
 | 0,_,_,_,_,h=>by cases h
 | n + 1,_,_,_,_,h=>WF83 (W83 n) h
noncomputable def s84_0 (a0:Option (List GUnit)) (a1:Int) (a2:Option (List Int)) (s0:Int × (List Int)):Option ((Int × (List Int)) ⊕ ((Int × (List Int)))):=
 cond (decide (s0.1 < ((a0.getD []).length:Int)))
  (obind (idxM 8 s0.2 s0.1) fun v8=>
  some (.inl (wrapF .i64 (s0.1 + 1),s0.2.set s0.1.toNat s0.1)))
  (some (.inr (s0.1,s0.2)))
def St84_0 (a0:Option (List GUnit)) (a1:Int) (a2:Option (List Int)) (s0:Int × (List Int)):ASt:=⟨[(0,sl 2 vunit a0,false),(1,.int .i64 a1,false),(2,sl 1 vint a2,false),(7,.ptr 0 0,false),(17,.int .i64 ((a0.getD []).length:Int),false),(18,.int .i64 s0.1,false)],[.cells (icl s0.2)]⟩
def Ex84_0 (a0:Option (List GUnit)) (a1:Int) (a2:Option (List Int)) (d:(Int × (List Int))):AExit × ASt:=(.exit 0,⟨[(0,sl 2 vunit a0,false),(1,.int .i64 a1,false),(2,sl 1 vint a2,false),(7,.ptr 0 0,false),(17,.int .i64 ((a0.getD []).length:Int),false),(18,.int .i64 d.1,false),(19,.bool false,false)],[.cells (icl d.2)]⟩)
theorem b84_0 (a0:Option (List GUnit)) (a1:Int) (a2:Option (List Int)) (s0:Int × (List Int)) (r) (h:s84_0 a0 a1 a2 s0=some r):stepO pr c84_0 (St84_0 a0 a1 a2) (Ex84_0 a0 a1 a2) s0 r:=by
 unfold s84_0 at h
 rcases cond_split h with ⟨h7,h⟩ | ⟨h7,h⟩
 ·obtain ⟨v8,h9,h⟩:=obind_some h
  cases h
  exact stepO_in (st':=⟨[(0,sl 2 vunit a0,false),(1,.int .i64 a1,false),(2,sl 1 vint a2,false),(7,.ptr 0 0,false),(17,.int .i64 ((a0.getD []).length:Int),false),(18,.int .i64 (wrapF .i64 (s0.1 + 1)),false)],[.cells (icl (s0.2.set s0.1.toNat s0.1))]⟩) (by simp only [go_sem,seval,c84_0,St84_0,h7,idx_arr_O h9,ld_ms_O h9,st_ms_O h9] <;> rfl) (gc_same (Nat.le_refl _))
 ·cases h
  exact stepO_out (by simp only [go_sem,seval,c84_0,St84_0,h7,Ex84_0] <;> rfl)
theorem l84_0 (a0:Option (List GUnit)) (a1:Int) (a2:Option (List Int)) {s0:Int × (List Int)} {d} (h:itO (s84_0 a0 a1 a2) s0=some d):X pr (.loop c84_0) (St84_0 a0 a1 a2 s0)=some (Ex84_0 a0 a1 a2 d):=X_itO (b84_0 a0 a1 a2) (fun d hh=>by cases hh) h
noncomputable def s84_3 (a0:Option (List GUnit)) (a1:Int) (a2:Option (List Int)) (s1:Int × (List Int)) (s2:Int × (List Int)) (s3:Int × (List Int)):Option ((Int × (List Int)) ⊕ ((Int × (List Int)))):=
 cond (decide (s3.1 < ((a0.getD []).length:Int)))
  (obind (f124 a2 s2.1) fun v471=>
  cond v471
   (some (.inl (wrapF .i64 (s3.1 + 1),s3.2)))
   (obind (f124 a2 s3.1) fun v474=>
   cond v474
    (some (.inl (wrapF .i64 (s3.1 + 1),s3.2)))
    (obind (idxO (a0.getD []) s2.1) fun v477=>
    obind (idxO (a0.getD []) s3.1) fun v479=>
    obind (f58 v477 v479) fun v481=>
    cond (decide (v481 < a1))
     (obind (idxM 8 s3.2 s3.1) fun v484=>
     obind (idxM 8 s3.2 s2.1) fun v486=>
     some (.inl (wrapF .i64 (s3.1 + 1),s3.2.set s3.1.toNat (min v484 v486))))
     (some (.inl (wrapF .i64 (s3.1 + 1),s3.2))))))
  (some (.inr (s3.1,s3.2)))
def St84_3 (a0:Option (List GUnit)) (a1:Int) (a2:Option (List Int)) (s1:Int × (List Int)) (s2:Int × (List Int)) (s3:Int × (List Int)):ASt:=⟨[(0,sl 2 vunit a0,false),(1,.int .i64 a1,false),(2,sl 1 vint a2,false),(7,.ptr 0 0,false),(9,.int .i64 s2.1,false),(26,.int .i64 ((a0.getD []).length:Int),false),(27,.int .i64 s1.1,false),(30,.int .i64 ((a0.getD []).length:Int),false),(31,.int .i64 s2.1,false),(35,.int .i64 ((a0.getD []).length:Int),false),(36,.int .i64 s3.1,false)],[.cells (icl s3.2)]⟩
def Ex84_3 (a0:Option (List GUnit)) (a1:Int) (a2:Option (List Int)) (s1:Int × (List Int)) (s2:Int × (List Int)) (d:(Int × (List Int))):AExit × ASt:=(.exit 6,⟨[(0,sl 2 vunit a0,false),(1,.int .i64 a1,false),(2,sl 1 vint a2,false),(7,.ptr 0 0,false),(9,.int .i64 s2.1,false),(26,.int .i64 ((a0.getD []).length:Int),false),(27,.int .i64 s1.1,false),(30,.int .i64 ((a0.getD []).length:Int),false),(31,.int .i64 s2.1,false),(35,.int .i64 ((a0.getD []).length:Int),false),(36,.int .i64 d.1,false),(37,.bool false,false)],[.cells (icl d.2)]⟩)
theorem b84_3 (a0:Option (List GUnit)) (a1:Int) (a2:Option (List Int)) (s1:Int × (List Int)) (s2:Int × (List Int)) (s3:Int × (List Int)) (r) (h:s84_3 a0 a1 a2 s1 s2 s3=some r):stepO pr c84_3 (St84_3 a0 a1 a2 s1 s2) (Ex84_3 a0 a1 a2 s1 s2) s3 r:=by
 unfold s84_3 at h
 rcases cond_split h with ⟨h470,h⟩ | ⟨h470,h⟩
 ·obtain ⟨v471,h472,h⟩:=obind_some h
  have wh472:callIso pr (X pr) 124 [sl 1 vint a2,.int .i64 s2.1]=some (.bool v471,false):=W124 h472
  rcases cond_split h with ⟨h473,h⟩ | ⟨h473,h⟩
  ·cases h
   exact stepO_in (st':=⟨[(0,sl 2 vunit a0,false),(1,.int .i64 a1,false),(2,sl 1 vint a2,false),(7,.ptr 0 0,false),(9,.int .i64 s2.1,false),(26,.int .i64 ((a0.getD []).length:Int),false),(27,.int .i64 s1.1,false),(30,.int .i64 ((a0.getD []).length:Int),false),(31,.int .i64 s2.1,false),(35,.int .i64 ((a0.getD []).length:Int),false),(36,.int .i64 (wrapF .i64 (s3.1 + 1)),false)],[.cells (icl s3.2)]⟩) (by simp only [go_sem,seval,c84_3,St84_3,h470,wh472,h473] <;> rfl) (gc_same (Nat.le_refl _))
  ·obtain ⟨v474,h475,h⟩:=obind_some h
   have wh475:callIso pr (X pr) 124 [sl 1 vint a2,.int .i64 s3.1]=some (.bool v474,false):=W124 h475
   rcases cond_split h with ⟨h476,h⟩ | ⟨h476,h⟩
   ·cases h
    exact stepO_in (st':=⟨[(0,sl 2 vunit a0,false),(1,.int .i64 a1,false),(2,sl 1 vint a2,false),(7,.ptr 0 0,false),(9,.int .i64 s2.1,false),(26,.int .i64 ((a0.getD []).length:Int),false),(27,.int .i64 s1.1,false),(30,.int .i64 ((a0.getD []).length:Int),false),(31,.int .i64 s2.1,false),(35,.int .i64 ((a0.getD []).length:Int),false),(36,.int .i64 (wrapF .i64 (s3.1 + 1)),false)],[.cells (icl s3.2)]⟩) (by simp only [go_sem,seval,c84_3,St84_3,h470,wh472,h473,wh475,h476] <;> rfl) (gc_same (Nat.le_refl _))
   ·obtain ⟨v477,h478,h⟩:=obind_some h
    obtain ⟨v479,h480,h⟩:=obind_some h
    obtain ⟨v481,h482,h⟩:=obind_some h
    have wh482:callIso pr (X pr) 58 [.agg [.str v477.serial,sl 1 vint v477.values],.agg [.str v479.serial,sl 1 vint v479.values]]=some (.int .i64 v481,false):=W58 h482
    rcases cond_split h with ⟨h483,h⟩ | ⟨h483,h⟩
    ·obtain ⟨v484,h485,h⟩:=obind_some h
     obtain ⟨v486,h487,h⟩:=obind_some h
     cases h
     exact stepO_in (st':=⟨[(0,sl 2 vunit a0,false),(1,.int .i64 a1,false),(2,sl 1 vint a2,false),(7,.ptr 0 0,false),(9,.int .i64 s2.1,false),(26,.int .i64 ((a0.getD []).length:Int),false),(27,.int .i64 s1.1,false),(30,.int .i64 ((a0.getD []).length:Int),false),(31,.int .i64 s2.1,false),(35,.int .i64 ((a0.getD []).length:Int),false),(36,.int .i64 (wrapF .i64 (s3.1 + 1)),false)],[.cells (icl (s3.2.set s3.1.toNat (min v484 v486)))]⟩) (by simp only [go_sem,seval,c84_3,St84_3,h470,wh472,h473,wh475,h476,idxR_O h478,idxR_O h480,wh482,h483,idx_arr_O h485,ld_ms_O h485,st_ms_O h485,idx_arr_O h487,ld_ms_O h487,st_ms_O h487] <;> rfl) (gc_same (Nat.le_refl _))
    ·cases h
     exact stepO_in (st':=⟨[(0,sl 2 vunit a0,false),(1,.int .i64 a1,false),(2,sl 1 vint a2,false),(7,.ptr 0 0,false),(9,.int .i64 s2.1,false),(26,.int .i64 ((a0.getD []).length:Int),false),(27,.int .i64 s1.1,false),(30,.int .i64 ((a0.getD []).length:Int),false),(31,.int .i64 s2.1,false),(35,.int .i64 ((a0.getD []).length:Int),false),(36,.int .i64 (wrapF .i64 (s3.1 + 1)),false)],[.cells (icl s3.2)]⟩) (by simp only [go_sem,seval,c84_3,St84_3,h470,wh472,h473,wh475,h476,idxR_O h478,idxR_O h480,wh482,h483] <;> rfl) (gc_same (Nat.le_refl _))
 ·cases h
  exact stepO_out (by simp only [go_sem,seval,c84_3,St84_3,h470,Ex84_3] <;> rfl)
theorem l84_3 (a0:Option (List GUnit)) (a1:Int) (a2:Option (List Int)) (s1:Int × (List Int)) (s2:Int × (List Int)) {s3:Int × (List Int)} {d} (h:itO (s84_3 a0 a1 a2 s1 s2) s3=some d):X pr (.loop c84_3) (St84_3 a0 a1 a2 s1 s2 s3)=some (Ex84_3 a0 a1 a2 s1 s2 d):=X_itO (b84_3 a0 a1 a2 s1 s2) (fun d hh=>by cases hh) h
noncomputable def s84_2 (a0:Option (List GUnit)) (a1:Int) (a2:Option (List Int)) (s1:Int × (List Int)) (s2:Int × (List Int)):Option ((Int × (List Int)) ⊕ ((Int × (List Int)))):=
 cond (decide (s2.1 < ((a0.getD []).length:Int)))
  (obind (itO (s84_3 a0 a1 a2 s1 s2) (0,s2.2)) fun d488=>
  some (.inl (wrapF .i64 (s2.1 + 1),d488.2)))
  (some (.inr (s2.1,s2.2)))
def St84_2 (a0:Option (List GUnit)) (a1:Int) (a2:Option (List Int)) (s1:Int × (List Int)) (s2:Int × (List Int)):ASt:=⟨[(0,sl 2 vunit a0,false),(1,.int .i64 a1,false),(2,sl 1 vint a2,false),(7,.ptr 0 0,false),(26,.int .i64 ((a0.getD []).length:Int),false),(27,.int .i64 s1.1,false),(30,.int .i64 ((a0.getD []).length:Int),false),(31,.int .i64 s2.1,false)],[.cells (icl s2.2)]⟩
def Ex84_2 (a0:Option (List GUnit)) (a1:Int) (a2:Option (List Int)) (s1:Int × (List Int)) (d:(Int × (List Int))):AExit × ASt:=(.exit 4,⟨[(0,sl 2 vunit a0,false),(1,.int .i64 a1,false),(2,sl 1 vint a2,false),(7,.ptr 0 0,false),(26,.int .i64 ((a0.getD []).length:Int),false),(27,.int .i64 s1.1,false),(30,.int .i64 ((a0.getD []).length:Int),false),(31,.int .i64 d.1,false),(32,.bool false,false)],[.cells (icl d.2)]⟩)
theorem b84_2 (a0:Option (List GUnit)) (a1:Int) (a2:Option (List Int)) (s1:Int × (List Int)) (s2:Int × (List Int)) (r) (h:s84_2 a0 a1 a2 s1 s2=some r):stepO pr c84_2 (St84_2 a0 a1 a2 s1) (Ex84_2 a0 a1 a2 s1) s2 r:=by
 unfold s84_2 at h
 rcases cond_split h with ⟨h433,h⟩ | ⟨h433,h⟩
 ·obtain ⟨d488,h489,h⟩:=obind_some h
  have wh489:X pr (.loop c84_3) ⟨[(0,sl 2 vunit a0,false),(1,.int .i64 a1,false),(2,sl 1 vint a2,false),(7,.ptr 0 0,false),(9,.int .i64 s2.1,false),(26,.int .i64 ((a0.getD []).length:Int),false),(27,.int .i64 s1.1,false),(30,.int .i64 ((a0.getD []).length:Int),false),(31,.int .i64 s2.1,false),(35,.int .i64 ((a0.getD []).length:Int),false),(36,.int .i64 0,false)],[.cells (icl s2.2)]⟩=some (.exit 6,⟨[(0,sl 2 vunit a0,false),(1,.int .i64 a1,false),(2,sl 1 vint a2,false),(7,.ptr 0 0,false),(9,.int .i64 s2.1,false),(26,.int .i64 ((a0.getD []).length:Int),false),(27,.int .i64 s1.1,false),(30,.int .i64 ((a0.getD []).length:Int),false),(31,.int .i64 s2.1,false),(35,.int .i64 ((a0.getD []).length:Int),false),(36,.int .i64 d488.1,false),(37,.bool false,false)],[.cells (icl d488.2)]⟩):=l84_3 a0 a1 a2 s1 s2 h489
  cases h
  exact stepO_in (st':=⟨[(0,sl 2 vunit a0,false),(1,.int .i64 a1,false),(2,sl 1 vint a2,false),(7,.ptr 0 0,false),(26,.int .i64 ((a0.getD []).length:Int),false),(27,.int .i64 s1.1,false),(30,.int .i64 ((a0.getD []).length:Int),false),(31,.int .i64 (wrapF .i64 (s2.1 + 1)),false)],[.cells (icl d488.2)]⟩) (by simp only [go_sem,seval,c84_2,St84_2,h433,wh489] <;> rfl) (gc_same (Nat.le_refl _))
 ·cases h
  exact stepO_out (by simp only [go_sem,seval,c84_2,St84_2,h433,Ex84_2] <;> rfl)
theorem l84_2 (a0:Option (List GUnit)) (a1:Int) (a2:Option (List Int)) (s1:Int × (List Int)) {s2:Int × (List Int)} {d} (h:itO (s84_2 a0 a1 a2 s1) s2=some d):X pr (.loop c84_2) (St84_2 a0 a1 a2 s1 s2)=some (Ex84_2 a0 a1 a2 s1 d):=X_itO (b84_2 a0 a1 a2 s1) (fun d hh=>by cases hh) h
noncomputable def s84_1 (a0:Option (List GUnit)) (a1:Int) (a2:Option (List Int)) (s1:Int × (List Int)):Option ((Int × (List Int)) ⊕ ((Int × (List Int)))):=
 cond (decide (s1.1 < ((a0.getD []).length:Int)))
  (obind (itO (s84_2 a0 a1 a2 s1) (0,s1.2)) fun d490=>
  some (.inl (wrapF .i64 (s1.1 + 1),d490.2)))
  (some (.inr (s1.1,s1.2)))
def St84_1 (a0:Option (List GUnit)) (a1:Int) (a2:Option (List Int)) (s1:Int × (List Int)):ASt:=⟨[(0,sl 2 vunit a0,false),(1,.int .i64 a1,false),(2,sl 1 vint a2,false),(7,.ptr 0 0,false),(26,.int .i64 ((a0.getD []).length:Int),false),(27,.int .i64 s1.1,false)],[.cells (icl s1.2)]⟩
def Ex84_1 (a0:Option (List GUnit)) (a1:Int) (a2:Option (List Int)) (d:(Int × (List Int))):AExit × ASt:=(.exit 2,⟨[(0,sl 2 vunit a0,false),(1,.int .i64 a1,false),(2,sl 1 vint a2,false),(7,.ptr 0 0,false),(26,.int .i64 ((a0.getD []).length:Int),false),(27,.int .i64 d.1,false),(28,.bool false,false)],[.cells (icl d.2)]⟩)
theorem b84_1 (a0:Option (List GUnit)) (a1:Int) (a2:Option (List Int)) (s1:Int × (List Int)) (r) (h:s84_1 a0 a1 a2 s1=some r):stepO pr c84_1 (St84_1 a0 a1 a2) (Ex84_1 a0 a1 a2) s1 r:=by
 unfold s84_1 at h
 rcases cond_split h with ⟨h332,h⟩ | ⟨h332,h⟩
 ·obtain ⟨d490,h491,h⟩:=obind_some h
  have wh491:X pr (.loop c84_2) ⟨[(0,sl 2 vunit a0,false),(1,.int .i64 a1,false),(2,sl 1 vint a2,false),(7,.ptr 0 0,false),(26,.int .i64 ((a0.getD []).length:Int),false),(27,.int .i64 s1.1,false),(30,.int .i64 ((a0.getD []).length:Int),false),(31,.int .i64 0,false)],[.cells (icl s1.2)]⟩=some (.exit 4,⟨[(0,sl 2 vunit a0,false),(1,.int .i64 a1,false),(2,sl 1 vint a2,false),(7,.ptr 0 0,false),(26,.int .i64 ((a0.getD []).length:Int),false),(27,.int .i64 s1.1,false),(30,.int .i64 ((a0.getD []).length:Int),false),(31,.int .i64 d490.1,false),(32,.bool false,false)],[.cells (icl d490.2)]⟩):=l84_2 a0 a1 a2 s1 h491
  cases h
  exact stepO_in (st':=⟨[(0,sl 2 vunit a0,false),(1,.int .i64 a1,false),(2,sl 1 vint a2,false),(7,.ptr 0 0,false),(26,.int .i64 ((a0.getD []).length:Int),false),(27,.int .i64 (wrapF .i64 (s1.1 + 1)),false)],[.cells (icl d490.2)]⟩) (by simp only [go_sem,seval,c84_1,St84_1,h332,wh491] <;> rfl) (gc_same (Nat.le_refl _))
 ·cases h
  exact stepO_out (by simp only [go_sem,seval,c84_1,St84_1,h332,Ex84_1] <;> rfl)
theorem l84_1 (a0:Option (List GUnit)) (a1:Int) (a2:Option (List Int)) {s1:Int × (List Int)} {d} (h:itO (s84_1 a0 a1 a2) s1=some d):X pr (.loop c84_1) (St84_1 a0 a1 a2 s1)=some (Ex84_1 a0 a1 a2 d):=X_itO (b84_1 a0 a1 a2) (fun d hh=>by cases hh) h
noncomputable def s84_4 (a0:Option (List GUnit)) (a2:Option (List Int)) (d492:Int × (List Int)) (s4:Int × (List Int)):Option ((Int × (List Int)) ⊕ ((Int × (List Int)))):=
 cond (decide (s4.1 < ((a0.getD []).length:Int)))
  (obind (f124 a2 s4.1) fun v511=>
  cond v511
   (some (.inl (wrapF .i64 (s4.1 + 1),s4.2)))
   (obind (idxM 8 d492.2 s4.1) fun v514=>
   obind (idxM 8 s4.2 v514) fun v516=>
   some (.inl (wrapF .i64 (s4.1 + 1),s4.2.set v514.toNat (wrapF .i64 (v516 + 1))))))
  (some (.inr (s4.1,s4.2)))
def St84_4 (a0:Option (List GUnit)) (a2:Option (List Int)) (d492:Int × (List Int)) (s4:Int × (List Int)):ASt:=⟨[(2,sl 1 vint a2,false),(7,.ptr 0 0,false),(11,.ptr 1 0,false),(76,.int .i64 ((a0.getD []).length:Int),false),(77,.int .i64 s4.1,false)],[.cells (icl d492.2),.cells (icl s4.2)]⟩
def Ex84_4 (a0:Option (List GUnit)) (a2:Option (List Int)) (d492:Int × (List Int)) (d:(Int × (List Int))):AExit × ASt:=(.exit 8,⟨[(2,sl 1 vint a2,false),(7,.ptr 0 0,false),(11,.ptr 1 0,false),(76,.int .i64 ((a0.getD []).length:Int),false),(77,.int .i64 d.1,false),(78,.bool false,false)],[.cells (icl d492.2),.cells (icl d.2)]⟩)
theorem b84_4 (a0:Option (List GUnit)) (a2:Option (List Int)) (d492:Int × (List Int)) (s4:Int × (List Int)) (r) (h:s84_4 a0 a2 d492 s4=some r):stepO pr c84_4 (St84_4 a0 a2 d492) (Ex84_4 a0 a2 d492) s4 r:=by
 unfold s84_4 at h
 rcases cond_split h with ⟨h510,h⟩ | ⟨h510,h⟩
 ·obtain ⟨v511,h512,h⟩:=obind_some h
  have wh512:callIso pr (X pr) 124 [sl 1 vint a2,.int .i64 s4.1]=some (.bool v511,false):=W124 h512
  rcases cond_split h with ⟨h513,h⟩ | ⟨h513,h⟩
  ·cases h
   exact stepO_in (st':=⟨[(2,sl 1 vint a2,false),(7,.ptr 0 0,false),(11,.ptr 1 0,false),(76,.int .i64 ((a0.getD []).length:Int),false),(77,.int .i64 (wrapF .i64 (s4.1 + 1)),false)],[.cells (icl d492.2),.cells (icl s4.2)]⟩) (by simp only [go_sem,seval,c84_4,St84_4,h510,wh512,h513] <;> rfl) (gc_same (Nat.le_refl _))
  ·obtain ⟨v514,h515,h⟩:=obind_some h
   obtain ⟨v516,h517,h⟩:=obind_some h
   cases h
   exact stepO_in (st':=⟨[(2,sl 1 vint a2,false),(7,.ptr 0 0,false),(11,.ptr 1 0,false),(76,.int .i64 ((a0.getD []).length:Int),false),(77,.int .i64 (wrapF .i64 (s4.1 + 1)),false)],[.cells (icl d492.2),.cells (icl (s4.2.set v514.toNat (wrapF .i64 (v516 + 1))))]⟩) (by simp only [go_sem,seval,c84_4,St84_4,h510,wh512,h513,idx_arr_O h515,ld_ms_O h515,st_ms_O h515,idx_arr_O h517,ld_ms_O h517,st_ms_O h517] <;> rfl) (gc_same (Nat.le_refl _))
 ·cases h
  exact stepO_out (by simp only [go_sem,seval,c84_4,St84_4,h510,Ex84_4] <;> rfl)
theorem l84_4 (a0:Option (List GUnit)) (a2:Option (List Int)) (d492:Int × (List Int)) {s4:Int × (List Int)} {d} (h:itO (s84_4 a0 a2 d492) s4=some d):X pr (.loop c84_4) (St84_4 a0 a2 d492 s4)=some (Ex84_4 a0 a2 d492 d):=X_itO (b84_4 a0 a2 d492) (fun d hh=>by cases hh) h
noncomputable def s84_5 (d492:Int × (List Int)) (d518:Int × (List Int)) (s5:Int × Int):Option ((Int × Int) ⊕ ((Int × Int))):=
 cond (decide (s5.2 < 8))
  (obind (idxM 8 d518.2 s5.2) fun v532=>
  obind (remO v532 2) fun v534=>
  some (.inl (wrapF .i64 (s5.1 + v534),wrapF .i64 (s5.2 + 1))))
  (some (.inr (s5.1,s5.2)))
def St84_5 (d492:Int × (List Int)) (d518:Int × (List Int)) (s5:Int × Int):ASt:=⟨[(13,.int .i64 s5.1,false),(92,.agg (List.map (AVal.int .i64) d518.2),false),(93,.int .i64 s5.2,false)],[.cells (icl d492.2),.cells (icl d518.2)]⟩
def Ex84_5 (d492:Int × (List Int)) (d518:Int × (List Int)) (d:(Int × Int)):AExit × ASt:=(.exit 10,⟨[(13,.int .i64 d.1,false),(92,.agg (List.map (AVal.int .i64) d518.2),false),(93,.int .i64 d.2,false),(94,.bool false,false)],[.cells (icl d492.2),.cells (icl d518.2)]⟩)
theorem b84_5 (d492:Int × (List Int)) (d518:Int × (List Int)) (s5:Int × Int) (r) (h:s84_5 d492 d518 s5=some r):stepO pr c84_5 (St84_5 d492 d518) (Ex84_5 d492 d518) s5 r:=by
 unfold s84_5 at h
 rcases cond_split h with ⟨h531,h⟩ | ⟨h531,h⟩
 ·obtain ⟨v532,h533,h⟩:=obind_some h
  obtain ⟨v534,h535,h⟩:=obind_some h
  cases h
  exact stepO_in (st':=⟨[(13,.int .i64 (wrapF .i64 (s5.1 + v534)),false),(92,.agg (List.map (AVal.int .i64) d518.2),false),(93,.int .i64 (wrapF .i64 (s5.2 + 1)),false)],[.cells (icl d492.2),.cells (icl d518.2)]⟩) (by simp only [go_sem,seval,c84_5,St84_5,h531,index_i_O h533,b_rem_O h535] <;> rfl) (gc_same (Nat.le_refl _))
 ·cases h
  exact stepO_out (by simp only [go_sem,seval,c84_5,St84_5,h531,Ex84_5] <;> rfl)
theorem l84_5 (d492:Int × (List Int)) (d518:Int × (List Int)) {s5:Int × Int} {d} (h:itO (s84_5 d492 d518) s5=some d):X pr (.loop c84_5) (St84_5 d492 d518 s5)=some (Ex84_5 d492 d518 d):=X_itO (b84_5 d492 d518) (fun d hh=>by cases hh) h
noncomputable def f84 (a0:Option (List GUnit)) (a1:Int) (a2:Option (List Int)):Option Int:=
 obind (itO (s84_0 a0 a1 a2) (0,[0,0,0,0,0,0,0,0])) fun d10=>
 obind (itO (s84_1 a0 a1 a2) (0,d10.2)) fun d492=>
 obind (itO (s84_4 a0 a2 d492) (0,[0,0,0,0,0,0,0,0])) fun d518=>
 obind (lenO 8 d518.2) fun v520=>
 obind (itO (s84_5 d492 d518) (0,0)) fun d536=>
 some d536.1
theorem W84 {a0:Option (List GUnit)} {a1:Int} {a2:Option (List Int)} {r} (h:f84 a0 a1 a2=some r):callIso pr (X pr) 84 [sl 2 vunit a0,.int .i64 a1,sl 1 vint a2]=some (.int .i64 r,false):=by
 unfold f84 at h
 obtain ⟨d10,h11,h⟩:=obind_some h
 have wh11:X pr (.loop c84_0) ⟨[(0,sl 2 vunit a0,false),(1,.int .i64 a1,false),(2,sl 1 vint a2,false),(7,.ptr 0 0,false),(17,.int .i64 ((a0.getD []).length:Int),false),(18,.int .i64 0,false)],[.cells (icl [0,0,0,0,0,0,0,0])]⟩=some (.exit 0,⟨[(0,sl 2 vunit a0,false),(1,.int .i64 a1,false),(2,sl 1 vint a2,false),(7,.ptr 0 0,false),(17,.int .i64 ((a0.getD []).length:Int),false),(18,.int .i64 d10.1,false),(19,.bool false,false)],[.cells (icl d10.2)]⟩):=l84_0 a0 a1 a2 h11
 obtain ⟨d492,h493,h⟩:=obind_some h
 have wh493:X pr (.loop c84_1) ⟨[(0,sl 2 vunit a0,false),(1,.int .i64 a1,false),(2,sl 1 vint a2,false),(7,.ptr 0 0,false),(26,.int .i64 ((a0.getD []).length:Int),false),(27,.int .i64 0,false)],[.cells (icl d10.2)]⟩=some (.exit 2,⟨[(0,sl 2 vunit a0,false),(1,.int .i64 a1,false),(2,sl 1 vint a2,false),(7,.ptr 0 0,false),(26,.int .i64 ((a0.getD []).length:Int),false),(27,.int .i64 d492.1,false),(28,.bool false,false)],[.cells (icl d492.2)]⟩):=l84_1 a0 a1 a2 h493
 obtain ⟨d518,h519,h⟩:=obind_some h
 have wh519:X pr (.loop c84_4) ⟨[(2,sl 1 vint a2,false),(7,.ptr 0 0,false),(11,.ptr 1 0,false),(76,.int .i64 ((a0.getD []).length:Int),false),(77,.int .i64 0,false)],[.cells (icl d492.2),.cells (icl [0,0,0,0,0,0,0,0])]⟩=some (.exit 8,⟨[(2,sl 1 vint a2,false),(7,.ptr 0 0,false),(11,.ptr 1 0,false),(76,.int .i64 ((a0.getD []).length:Int),false),(77,.int .i64 d518.1,false),(78,.bool false,false)],[.cells (icl d492.2),.cells (icl d518.2)]⟩):=l84_4 a0 a2 d492 h519
 obtain ⟨v520,h521,h⟩:=obind_some h
 obtain ⟨d536,h537,h⟩:=obind_some h
 have wh537:X pr (.loop c84_5) ⟨[(13,.int .i64 0,false),(92,.agg (List.map (AVal.int .i64) d518.2),false),(93,.int .i64 0,false)],[.cells (icl d492.2),.cells (icl d518.2)]⟩=some (.exit 10,⟨[(13,.int .i64 d536.1,false),(92,.agg (List.map (AVal.int .i64) d518.2),false),(93,.int .i64 d536.2,false),(94,.bool false,false)],[.cells (icl d492.2),.cells (icl d518.2)]⟩):=l84_5 d492 d518 h537
 have hr:d536.1=r:=Option.some.inj h
 subst hr
 have this:∃ hh,callFn pr (X pr) 84 [sl 2 vunit a0,.int .i64 a1,sl 1 vint a2] []=some (.int .i64 d536.1,false,hh):=by
  rw [callFn_at (show pr.fns 84=some c84 from rfl) (by simp)]
  simp only [go_sem,seval,c84,alloc8_O,wh11,wh493,alloc8_O,st8_O,wh519,ld_wi h521,wh537]
  exact ⟨_,rfl⟩
 obtain ⟨hh,this⟩:=this
 exact callIso_of rfl this (by first | rfl | simp only [go_sem,seval]) (by first | rfl | simp only [go_sem,seval])
end Go.Z
