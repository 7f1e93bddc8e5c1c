/-
  LineMasks: its run gives true.
-/
import Derived.Test.YtbkpojiedkhfkaaGreatL11
set_option linter.unusedVariables false
set_option linter.unusedSimpArgs false
set_option maxRecDepth 100000
set_option linter.unusedSimpArgs false
namespace Go.Z
open Go Go.Abs
theorem nonNil_getD {α : Type} (l : List α) : (nonNil l).getD [] = l := by cases l <;> rfl
theorem firstU_own (n0 : Int) : ∀ (l : List GUnit) (seen : List (List UInt8)), firstU n0 seen (l.map ownU) = firstU n0 seen l
  | [], _ => rfl
  | u :: l, seen => by
    simp only [List.map_cons, firstU]
    rw [show stepU n0 seen (ownU u) = stepU n0 seen u from rfl, show (ownU u).serial = u.serial from rfl, firstU_own n0 l]
theorem len0_own : ∀ l : List GUnit, len0 (l.map ownU) = len0 l
  | [] => rfl
  | _ :: _ => rfl
theorem lenN_own : ∀ l : List GUnit, lenN (l.map ownU) = lenN l
  | [] => rfl
  | _ :: _ => rfl
theorem unitsE_own (l : List GUnit) : unitsE (l.map ownU) = unitsE l := by
  unfold unitsE
  rw [List.length_map, len0_own, firstU_own]
theorem learnE_own (l : List GUnit) (g : Int) : learnE (l.map ownU) g = learnE l g := by
  unfold learnE
  rw [List.length_map, unitsE_own]
theorem col_own (t : Nat) (l : List GUnit) : col t (l.map ownU) = col t l := by
  unfold col
  rw [List.map_map]
  rfl
theorem learnedM_own (l : List GUnit) (g : Int) : learnedM (l.map ownU) g = learnedM l g := by
  unfold learnedM
  simp only [lenN_own, col_own]
theorem learnM_own (l : List GUnit) (g : Int) : learnM (l.map ownU) g = learnM l g := by
  unfold learnM
  rw [learnE_own, learnedM_own]
def ownM (m : GMask) : GMask := ⟨ownI m.least, ownI m.most⟩
theorem sizeU_own {u : GUnit} (h : sizeU u) : sizeU (ownU u) := h
theorem I14 : callIso pr (X pr) 14 [] = some (.bool true, false) := rfl
theorem shortUs_sizes {l : List GUnit} (h : shortUs l 10 = true) : l.length ≤ 65 ∧ ∀ u ∈ l, u.serial.length ≤ 60 ∧ (u.values.getD []).length ≤ 17 := by
  unfold shortUs at h
  split at h
  · cases h
  · next hh =>
    refine ⟨?_, fun u hu => ?_⟩
    · by_cases h65 : l.length = 65
      · omega
      · have : ¬ ((l.length : Int) > 10) := fun hgt => hh ⟨hgt, h65⟩
        omega
    · have := List.all_eq_true.1 h u hu
      simp only [shortU, Bool.and_eq_true, decide_eq_true_eq] at this
      exact this
end Go.Z
