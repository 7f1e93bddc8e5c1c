/-
  Names: their runs.
-/
import Derived.Test.YtbkpojiedkhfkaaL3
set_option linter.unusedVariables false
set_option linter.unusedSimpArgs false
set_option maxRecDepth 100000
set_option linter.unusedSimpArgs false
namespace Go.Z
open Go Go.Abs
end Go.Z
/-
  The checks of units and masks: their runs.
-/
set_option maxRecDepth 100000
set_option linter.unusedSimpArgs false
namespace Go.Z
open Go Go.Abs
@[go_sem] theorem afterShared_same {h : Heap} {v : AVal} : afterShared h.length v h = h := by
  unfold afterShared; rw [Nat.ble_eq_true_of_le (Nat.le_refl _)]; rfl
@[go_sem] theorem afterShared_nil {v : AVal} : afterShared 0 v [] = [] := rfl
end Go.Z
/-
  The checks of lists of units and of masks: their runs.
-/
set_option maxRecDepth 100000
set_option linter.unusedSimpArgs false
namespace Go.Z
open Go Go.Abs
theorem runL_first {α : Type} (q : α → Int) : ∀ (l : List α) (i : Nat), runL (γ := Unit) (δ := Int) (fun _ _ x => if q x = 0 then .inl () else .inr (q x)) i () l = if firstNZ (l.map q) = 0 then .inl () else .inr (firstNZ (l.map q))
  | [], _ => rfl
  | x :: l, i => by
    simp only [runL, List.map_cons, firstNZ]
    by_cases hz : q x = 0
    · simp only [hz, if_true]
      exact runL_first q l (i + 1)
    · simp only [if_neg hz]
@[go_sem] theorem fieldAddr_vunit0 {h : Heap} {u : GUnit} : fieldAddrR false 0 1 h (some (.vptr (vunit u))) = some ⟨.vptr (.str u.serial), false, none, h⟩ := rfl
@[go_sem] theorem fieldAddr_vunit1 {h : Heap} {u : GUnit} : fieldAddrR false 1 1 h (some (.vptr (vunit u))) = some ⟨.vptr (sl 1 vint u.values), false, none, h⟩ := by
  show vptrR false h (some (sl 1 vint u.values)) = _
  rw [vptrR_sl]
end Go.Z
/-
  The product's check of a list of units: its run.
-/
set_option maxRecDepth 100000
set_option linter.unusedSimpArgs false
namespace Go.Z
open Go Go.Abs
end Go.Z
