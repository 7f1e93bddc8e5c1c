/-
  LineTutte: arrays of truth values, arrays of eight numbers: the pieces for the printed walks.
-/
import Derived.Test.YtbkpojiedkhfkaaGreatG0m
import Derived.Test.YtbkpojiedkhfkaaGreatV4
import Derived.Test.YtbkpojiedkhfkaaGreatL5
import Derived.Test.YtbkpojiedkhfkaaGreatR1
set_option linter.unusedVariables false
set_option linter.unusedSimpArgs false
set_option maxRecDepth 100000
namespace Go.Z
open Go Go.Abs
section
variable {p:AProg} {xc:XC} {h0:Nat} {al:Option (List Nat)} {e:Env} {h:Heap} {α:Type}
end
end Go.Z
/-
 LineTutte: the law's own pairing and parts: functions that mirror the runs,and the runs (printed by walk.py).
-/
set_option maxHeartbeats 4000000
namespace Go.Z
open Go Go.Abs
noncomputable def s58_0 (a0:GUnit) (a1:GUnit) (s0:Int × Int):Option ((Int × Int) ⊕ ((Int × Int))):=
 cond (decide (s0.2 < ((a0.values.getD []).length:Int)))
  (obind (idxO (a0.values.getD []) s0.2) fun v12=>
  obind (idxO (a1.values.getD []) s0.2) fun v14=>
  some (.inl (max (max s0.1 (wrapF .i64 (v12 - v14))) (wrapF .i64 (v14 - v12)),wrapF .i64 (s0.2 + 1))))
  (some (.inr (s0.1,s0.2)))
def St58_0 (a0:GUnit) (a1:GUnit) (s0:Int × Int):ASt:=⟨[(3,.ptr 1 0,false),(5,.int .i64 s0.1,false),(9,sl 1 vint a0.values,false),(10,.int .i64 ((a0.values.getD []).length:Int),false),(11,.int .i64 s0.2,false)],[.cells [(.str a0.serial,false),(sl 1 vint a0.values,false)],.cells [(.str a1.serial,false),(sl 1 vint a1.values,false)]]⟩
def Ex58_0 (a0:GUnit) (a1:GUnit) (d:(Int × Int)):AExit × ASt:=(.exit 0,⟨[(3,.ptr 1 0,false),(5,.int .i64 d.1,false),(9,sl 1 vint a0.values,false),(10,.int .i64 ((a0.values.getD []).length:Int),false),(11,.int .i64 d.2,false),(12,.bool false,false)],[.cells [(.str a0.serial,false),(sl 1 vint a0.values,false)],.cells [(.str a1.serial,false),(sl 1 vint a1.values,false)]]⟩)
theorem b58_0 (a0:GUnit) (a1:GUnit) (s0:Int × Int) (r) (h:s58_0 a0 a1 s0=some r):stepO pr c58_0 (St58_0 a0 a1) (Ex58_0 a0 a1) s0 r:=by
 unfold s58_0 at h
 rcases cond_split h with ⟨h11,h⟩ | ⟨h11,h⟩
 ·obtain ⟨v12,h13,h⟩:=obind_some h
  obtain ⟨v14,h15,h⟩:=obind_some h
  cases h
  exact stepO_in (st':=⟨[(3,.ptr 1 0,false),(5,.int .i64 (max (max s0.1 (wrapF .i64 (v12 - v14))) (wrapF .i64 (v14 - v12))),false),(9,sl 1 vint a0.values,false),(10,.int .i64 ((a0.values.getD []).length:Int),false),(11,.int .i64 (wrapF .i64 (s0.2 + 1)),false)],[.cells [(.str a0.serial,false),(sl 1 vint a0.values,false)],.cells [(.str a1.serial,false),(sl 1 vint a1.values,false)]]⟩) (by simp only [go_sem,seval,c58_0,St58_0,h11,idxR_O h13,idxR_O h15] <;> rfl) (gc_same (Nat.le_refl _))
 ·cases h
  exact stepO_out (by simp only [go_sem,seval,c58_0,St58_0,h11,Ex58_0] <;> rfl)
theorem l58_0 (a0:GUnit) (a1:GUnit) {s0:Int × Int} {d} (h:itO (s58_0 a0 a1) s0=some d):X pr (.loop c58_0) (St58_0 a0 a1 s0)=some (Ex58_0 a0 a1 d):=X_itO (b58_0 a0 a1) (fun d hh=>by cases hh) h
noncomputable def f58 (a0:GUnit) (a1:GUnit):Option Int:=
 obind (itO (s58_0 a0 a1) (0,0)) fun d16=>
 some d16.1
theorem W58 {a0:GUnit} {a1:GUnit} {r} (h:f58 a0 a1=some r):callIso pr (X pr) 58 [.agg [.str a0.serial,sl 1 vint a0.values],.agg [.str a1.serial,sl 1 vint a1.values]]=some (.int .i64 r,false):=by
 unfold f58 at h
 obtain ⟨d16,h17,h⟩:=obind_some h
 have wh17:X pr (.loop c58_0) ⟨[(3,.ptr 1 0,false),(5,.int .i64 0,false),(9,sl 1 vint a0.values,false),(10,.int .i64 ((a0.values.getD []).length:Int),false),(11,.int .i64 0,false)],[.cells [(.str a0.serial,false),(sl 1 vint a0.values,false)],.cells [(.str a1.serial,false),(sl 1 vint a1.values,false)]]⟩=some (.exit 0,⟨[(3,.ptr 1 0,false),(5,.int .i64 d16.1,false),(9,sl 1 vint a0.values,false),(10,.int .i64 ((a0.values.getD []).length:Int),false),(11,.int .i64 d16.2,false),(12,.bool false,false)],[.cells [(.str a0.serial,false),(sl 1 vint a0.values,false)],.cells [(.str a1.serial,false),(sl 1 vint a1.values,false)]]⟩):=l58_0 a0 a1 h17
 have hr:d16.1=r:=Option.some.inj h
 subst hr
 have this:∃ hh,callFn pr (X pr) 58 [.agg [.str a0.serial,sl 1 vint a0.values],.agg [.str a1.serial,sl 1 vint a1.values]] []=some (.int .i64 d16.1,false,hh):=by
  rw [callFn_at (show pr.fns 58=some c58 from rfl) (by simp)]
  simp only [go_sem,seval,c58,wh17]
  exact ⟨_,rfl⟩
 obtain ⟨hh,this⟩:=this
 exact callIso_of rfl this (by first | rfl | simp only [go_sem,seval]) (by first | rfl | simp only [go_sem,seval])
end Go.Z
/-
 LineTutte: the reference's check of units of any size.
-/
namespace Go.Z
open Go Go.Abs
noncomputable def E22w (o:Option (List GUnit)):Option Int:=exO ((o.getD []).length≤1073741824∧∀ u∈o.getD [],sizeW u) (unitsE (o.getD []))
theorem WE22w {o r} (h:E22w o=some r):callIso pr (X pr) 22 [sl 2 vunit o]=some (.int .i64 r,false):=by obtain ⟨⟨h1,h2⟩,rfl⟩:=exO_some h; exact I22w _ h1 h2
end Go.Z
/-
 LineTurned: the law's bound of the values: a function that mirrors the run,and the run (printed by walk.py).
-/
namespace Go.Z
open Go Go.Abs
noncomputable def s54_1 (a0:Option (List GUnit)) (a1:Int) (s0:Int) (v46:GUnit) (s1:Int):Option (Int ⊕ (Unit ⊕ Int)):=
 cond (decide (s1 < ((v46.values.getD []).length:Int)))
  (obind (idxO (v46.values.getD []) s1) fun v59=>
  cond (decide (a1 < v59))
   (some (.inr (.inl ())))
   (cond (decide (v59 < (wrapF .i64 (0 - a1))))
    (some (.inr (.inl ())))
    (some (.inl (wrapF .i64 (s1 + 1))))))
  (some (.inr (.inr s1)))
def St54_1 (a0:Option (List GUnit)) (a1:Int) (s0:Int) (v46:GUnit) (s1:Int):ASt:=⟨[(1,.int .i64 a1,false),(9,sl 2 vunit a0,false),(10,.int .i64 ((a0.getD []).length:Int),false),(11,.int .i64 s0,false),(16,sl 1 vint v46.values,false),(17,.int .i64 ((v46.values.getD []).length:Int),false),(18,.int .i64 s1,false)],[.cells [(.str v46.serial,false),(sl 1 vint v46.values,false)]]⟩
def Ex54_1 (a0:Option (List GUnit)) (a1:Int) (s0:Int) (v46:GUnit):Unit ⊕ Int→AExit × ASt
 | .inl d=>(.ret,⟨[(4,.bool false,false)],[.cells [(.str v46.serial,false),(sl 1 vint v46.values,false)]]⟩)
 | .inr d=>(.exit 2,⟨[(1,.int .i64 a1,false),(9,sl 2 vunit a0,false),(10,.int .i64 ((a0.getD []).length:Int),false),(11,.int .i64 s0,false),(16,sl 1 vint v46.values,false),(17,.int .i64 ((v46.values.getD []).length:Int),false),(18,.int .i64 d,false),(19,.bool false,false)],[.cells [(.str v46.serial,false),(sl 1 vint v46.values,false)]]⟩)
theorem b54_1 (a0:Option (List GUnit)) (a1:Int) (s0:Int) (v46:GUnit) (s1:Int) (r) (h:s54_1 a0 a1 s0 v46 s1=some r):stepO pr c54_1 (St54_1 a0 a1 s0 v46) (Ex54_1 a0 a1 s0 v46) s1 r:=by
 unfold s54_1 at h
 rcases cond_split h with ⟨h58,h⟩ | ⟨h58,h⟩
 ·obtain ⟨v59,h60,h⟩:=obind_some h
  rcases cond_split h with ⟨h61,h⟩ | ⟨h61,h⟩
  ·cases h
   exact stepO_out (by simp only [go_sem,seval,c54_1,St54_1,h58,idxR_O h60,h61,Ex54_1] <;> rfl)
  ·rcases cond_split h with ⟨h62,h⟩ | ⟨h62,h⟩
   ·cases h
    exact stepO_out (by simp only [go_sem,seval,c54_1,St54_1,h58,idxR_O h60,h61,h62,Ex54_1] <;> rfl)
   ·cases h
    exact stepO_in (st':=⟨[(1,.int .i64 a1,false),(9,sl 2 vunit a0,false),(10,.int .i64 ((a0.getD []).length:Int),false),(11,.int .i64 s0,false),(16,sl 1 vint v46.values,false),(17,.int .i64 ((v46.values.getD []).length:Int),false),(18,.int .i64 (wrapF .i64 (s1 + 1)),false)],[.cells [(.str v46.serial,false),(sl 1 vint v46.values,false)]]⟩) (by simp only [go_sem,seval,c54_1,St54_1,h58,idxR_O h60,h61,h62] <;> rfl) (gc_same (Nat.le_refl _))
 ·cases h
  exact stepO_out (by simp only [go_sem,seval,c54_1,St54_1,h58,Ex54_1] <;> rfl)
theorem l54_1 (a0:Option (List GUnit)) (a1:Int) (s0:Int) (v46:GUnit) {s1:Int} {d} (h:itO (s54_1 a0 a1 s0 v46) s1=some d):X pr (.loop c54_1) (St54_1 a0 a1 s0 v46 s1)=some (Ex54_1 a0 a1 s0 v46 d):=X_itO (b54_1 a0 a1 s0 v46) (fun d=>by rcases d with d|d <;> (intro hh; cases hh)) h
noncomputable def s54_0 (a0:Option (List GUnit)) (a1:Int) (s0:Int):Option (Int ⊕ (((List UInt8) × (Option (List Int))) ⊕ Int)):=
 cond (decide (s0 < ((a0.getD []).length:Int)))
  (obind (idxO (a0.getD []) s0) fun v46=>
  obind (itO (s54_1 a0 a1 s0 v46) 0) fun d63=>match d63 with
   | .inl d65=>
    some (.inr (.inl (v46.serial,v46.values)))
   | .inr d66=>
    some (.inl (wrapF .i64 (s0 + 1))))
  (some (.inr (.inr s0)))
def St54_0 (a0:Option (List GUnit)) (a1:Int) (s0:Int):ASt:=⟨[(1,.int .i64 a1,false),(9,sl 2 vunit a0,false),(10,.int .i64 ((a0.getD []).length:Int),false),(11,.int .i64 s0,false)],[]⟩
def Ex54_0 (a0:Option (List GUnit)) (a1:Int):((List UInt8) × (Option (List Int))) ⊕ Int→AExit × ASt
 | .inl d=>(.ret,⟨[(4,.bool false,false)],[.cells [(.str d.1,false),(sl 1 vint d.2,false)]]⟩)
 | .inr d=>(.exit 0,⟨[(1,.int .i64 a1,false),(9,sl 2 vunit a0,false),(10,.int .i64 ((a0.getD []).length:Int),false),(11,.int .i64 d,false),(12,.bool false,false)],[]⟩)
theorem b54_0 (a0:Option (List GUnit)) (a1:Int) (s0:Int) (r) (h:s54_0 a0 a1 s0=some r):stepO pr c54_0 (St54_0 a0 a1) (Ex54_0 a0 a1) s0 r:=by
 unfold s54_0 at h
 rcases cond_split h with ⟨h45,h⟩ | ⟨h45,h⟩
 ·obtain ⟨v46,h47,h⟩:=obind_some h
  obtain ⟨d63,h64,h⟩:=obind_some h
  rcases d63 with d65 | d66
  ·have wh64:X pr (.loop c54_1) ⟨[(1,.int .i64 a1,false),(9,sl 2 vunit a0,false),(10,.int .i64 ((a0.getD []).length:Int),false),(11,.int .i64 s0,false),(16,sl 1 vint v46.values,false),(17,.int .i64 ((v46.values.getD []).length:Int),false),(18,.int .i64 0,false)],[.cells [(.str v46.serial,false),(sl 1 vint v46.values,false)]]⟩=some (.ret,⟨[(4,.bool false,false)],[.cells [(.str v46.serial,false),(sl 1 vint v46.values,false)]]⟩):=l54_1 a0 a1 s0 v46 h64
   cases h
   exact stepO_out (by simp only [go_sem,seval,c54_0,St54_0,h45,idxR_O h47,wh64,Ex54_0] <;> rfl)
  ·have wh64:X pr (.loop c54_1) ⟨[(1,.int .i64 a1,false),(9,sl 2 vunit a0,false),(10,.int .i64 ((a0.getD []).length:Int),false),(11,.int .i64 s0,false),(16,sl 1 vint v46.values,false),(17,.int .i64 ((v46.values.getD []).length:Int),false),(18,.int .i64 0,false)],[.cells [(.str v46.serial,false),(sl 1 vint v46.values,false)]]⟩=some (.exit 2,⟨[(1,.int .i64 a1,false),(9,sl 2 vunit a0,false),(10,.int .i64 ((a0.getD []).length:Int),false),(11,.int .i64 s0,false),(16,sl 1 vint v46.values,false),(17,.int .i64 ((v46.values.getD []).length:Int),false),(18,.int .i64 d66,false),(19,.bool false,false)],[.cells [(.str v46.serial,false),(sl 1 vint v46.values,false)]]⟩):=l54_1 a0 a1 s0 v46 h64
   cases h
   exact stepO_in (st':=⟨[(1,.int .i64 a1,false),(9,sl 2 vunit a0,false),(10,.int .i64 ((a0.getD []).length:Int),false),(11,.int .i64 (wrapF .i64 (s0 + 1)),false)],[]++[.cells [(.str v46.serial,false),(sl 1 vint v46.values,false)]]⟩) (by simp only [go_sem,seval,c54_0,St54_0,h45,idxR_O h47,wh64] <;> rfl) (gc_over rfl rfl (by first | simp only [go_sem,seval,St54_0] | rfl) (by first | simp only [go_sem,seval,St54_0] | rfl))
 ·cases h
  exact stepO_out (by simp only [go_sem,seval,c54_0,St54_0,h45,Ex54_0] <;> rfl)
theorem l54_0 (a0:Option (List GUnit)) (a1:Int) {s0:Int} {d} (h:itO (s54_0 a0 a1) s0=some d):X pr (.loop c54_0) (St54_0 a0 a1 s0)=some (Ex54_0 a0 a1 d):=X_itO (b54_0 a0 a1) (fun d=>by rcases d with d|d <;> (intro hh; cases hh)) h
noncomputable def f54 (a0:Option (List GUnit)) (a1:Int):Option Bool:=
 obind (itO (s54_0 a0 a1) 0) fun d67=>match d67 with
  | .inl d69=>
   some false
  | .inr d70=>
   some true
theorem W54 {a0:Option (List GUnit)} {a1:Int} {r} (h:f54 a0 a1=some r):callIso pr (X pr) 54 [sl 2 vunit a0,.int .i64 a1]=some (.bool r,false):=by
 unfold f54 at h
 obtain ⟨d67,h68,h⟩:=obind_some h
 rcases d67 with d69 | d70
 ·have wh68:X pr (.loop c54_0) ⟨[(1,.int .i64 a1,false),(9,sl 2 vunit a0,false),(10,.int .i64 ((a0.getD []).length:Int),false),(11,.int .i64 0,false)],[]⟩=some (.ret,⟨[(4,.bool false,false)],[.cells [(.str d69.1,false),(sl 1 vint d69.2,false)]]⟩):=l54_0 a0 a1 h68
  have hr:false=r:=Option.some.inj h
  subst hr
  have this:∃ hh,callFn pr (X pr) 54 [sl 2 vunit a0,.int .i64 a1] []=some (.bool false,false,hh):=by
   rw [callFn_at (show pr.fns 54=some c54 from rfl) (by simp)]
   simp only [go_sem,seval,c54,wh68]
   exact ⟨_,rfl⟩
  obtain ⟨hh,this⟩:=this
  exact callIso_of rfl this (by first | rfl | simp only [go_sem,seval]) (by first | rfl | simp only [go_sem,seval])
 ·have wh68:X pr (.loop c54_0) ⟨[(1,.int .i64 a1,false),(9,sl 2 vunit a0,false),(10,.int .i64 ((a0.getD []).length:Int),false),(11,.int .i64 0,false)],[]⟩=some (.exit 0,⟨[(1,.int .i64 a1,false),(9,sl 2 vunit a0,false),(10,.int .i64 ((a0.getD []).length:Int),false),(11,.int .i64 d70,false),(12,.bool false,false)],[]⟩):=l54_0 a0 a1 h68
  have hr:true=r:=Option.some.inj h
  subst hr
  have this:∃ hh,callFn pr (X pr) 54 [sl 2 vunit a0,.int .i64 a1] []=some (.bool true,false,hh):=by
   rw [callFn_at (show pr.fns 54=some c54 from rfl) (by simp)]
   simp only [go_sem,seval,c54,wh68]
   exact ⟨_,rfl⟩
  obtain ⟨hh,this⟩:=this
  exact callIso_of rfl this (by first | rfl | simp only [go_sem,seval]) (by first | rfl | simp only [go_sem,seval])
end Go.Z
