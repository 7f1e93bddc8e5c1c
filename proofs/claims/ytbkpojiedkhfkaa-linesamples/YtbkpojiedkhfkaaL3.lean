/-
  Lists of units; comparisons; sizes; names: their runs.
-/
import Derived.Test.YtbkpojiedkhfkaaL2
import Derived.Test.YtbkpojiedkhfkaaAbsL
set_option linter.unusedVariables false
set_option linter.unusedSimpArgs false
set_option maxRecDepth 100000
set_option linter.unusedSimpArgs false
namespace Go.Z
open Go Go.Abs
attribute [go_sem] below_vunit
def acc {α : Type} (z : Nat) (f : α → AVal) (l : List α) : AVal := match l with
  | [] => .list true 0 []
  | a :: l => .list false z ((a :: l).map f)
def accO {α : Type} (l : List α) : Bool := !l.isEmpty
def nonNil {α : Type} (l : List α) : Option (List α) := match l with
  | [] => none
  | a :: l => some (a :: l)
theorem acc_sl {α : Type} {z : Nat} {f : α → AVal} (l : List α) : acc z f l = sl z f (nonNil l) := by cases l <;> rfl
@[go_sem] theorem acc_nil {α : Type} {z : Nat} {f : α → AVal} : acc z f [] = .list true 0 [] := rfl
@[go_sem] theorem accO_nil {α : Type} : accO (α := α) [] = false := rfl
theorem below_acc {α : Type} {n z : Nat} {f : α → AVal} (hf : ∀ x, below n (f x) = true) (l : List α) : below n (acc z f l) = true := by
  rw [acc_sl]; exact below_sl hf
@[go_sem] theorem apRes_f {n : Bool} {z : Nat} {xs : List AVal} {y : AVal} {ys : List AVal} : apRes n z xs (y :: ys) = .list false z (xs ++ y :: ys) := by
  cases n <;> rfl
@[go_sem] theorem belowEnv_nil {n : Nat} : belowEnv n [] = true := rfl
@[go_sem] theorem belowEnv_cons {n t : Nat} {v : AVal} {o : Bool} {e : Env} : belowEnv n ((t, v, o) :: e) = (below n v && belowEnv n e) := rfl
@[go_sem] theorem loadR_vunit {h0 : Nat} {al : Option (List Nat)} {h : Heap} {u : GUnit} : loadR h0 al true 2 h (some (.vptr (vunit u))) = some ⟨.agg [.str u.serial, sl 1 vint u.values], false, none, h⟩ := rfl
end Go.Z
