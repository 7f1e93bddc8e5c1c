/-
  Copies of masks and units are as good as these.
-/
import Derived.Test.YtbkpojiedkhfkaaGreatL16
set_option linter.unusedVariables false
set_option linter.unusedSimpArgs false
set_option maxRecDepth 100000
set_option linter.unusedSimpArgs false
namespace Go.Z
open Go Go.Abs
theorem failsL_own (m : GMask) : ∀ (l : List Int) (i : Nat), failsL (ownM m) i l = failsL m i l
  | [], _ => rfl
  | v :: l, i => by
    simp only [failsL]
    rw [show failsAt (ownM m) i v = failsAt m i v from rfl, failsL_own m l]
theorem gradeL_own (m : GMask) (cls : Int) : ∀ (l : List Int) (i : Nat) (g : Int), gradeL (ownM m) cls i g l = gradeL m cls i g l
  | [], _, _ => rfl
  | v :: l, i, g => by
    simp only [gradeL]
    rw [show loM (ownM m) i = loM m i from rfl, show hiM (ownM m) i = hiM m i from rfl, gradeL_own m cls l]
theorem failsL_len (m : GMask) : ∀ (l : List Int) (i : Nat), (failsL m i l).length ≤ l.length
  | [], _ => Nat.le_refl _
  | v :: l, i => by
    have := failsL_len m l (i + 1)
    simp only [failsL]
    split <;> simp only [List.length_cons] <;> omega
theorem failuresM_own (m : GMask) (u : GUnit) : failuresM (ownM m) (ownU u) = failuresM m u := by
  unfold failuresM
  rw [show testedE (ownM m) (ownU u) = testedE m u from rfl, failsL_own]
  rfl
theorem gradedE_own (m : GMask) (u : GUnit) (cls : Int) : gradedE (ownM m) (ownU u) cls = gradedE m u cls := by
  unfold gradedE
  rw [show gradeE (ownM m) (ownU u) cls = gradeE m u cls from rfl, failsL_own]
  rfl
theorem gradedN_own (m : GMask) (u : GUnit) (cls : Int) : gradedN (ownM m) (ownU u) cls = gradedN m u cls := by
  unfold gradedN
  rw [show gradeE (ownM m) (ownU u) cls = gradeE m u cls from rfl, failsL_own, gradeL_own]
  rfl
theorem yieldN_own (m : GMask) (l : List GUnit) : yieldN (ownM m) (l.map ownU) = yieldN m l := by
  unfold yieldN
  rw [List.countP_map]
  congr 1
  funext u
  simp only [Function.comp, passB]
  rw [failsL_own]
  rfl
theorem yieldA_own (m : GMask) (l : List GUnit) : yieldA (ownM m) (l.map ownU) = yieldA m l := by
  unfold yieldA
  rw [unitsE_own]
  rfl
theorem yieldE_own (m : GMask) (l : List GUnit) : yieldE (ownM m) (l.map ownU) = yieldE m l := by
  unfold yieldE
  rw [yieldA_own, lenN_own]
  simp only [List.map_eq_nil_iff]
  rfl
theorem yieldV_own (m : GMask) (l : List GUnit) : yieldV (ownM m) (l.map ownU) = yieldV m l := by
  unfold yieldV
  rw [yieldE_own, yieldN_own, List.length_map]
end Go.Z
