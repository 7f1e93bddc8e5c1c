/-
  Copies, comparisons, sizes: their runs.
-/
import Derived.Test.YtbkpojiedkhfkaaGreatL1
import Derived.Test.YtbkpojiedkhfkaaGreatAbsL
set_option linter.unusedVariables false
set_option linter.unusedSimpArgs false
set_option maxRecDepth 100000
set_option linter.unusedSimpArgs false
namespace Go.Z
open Go Go.Abs
structure GUnit where
  serial : List UInt8
  values : Option (List Int)
def vunit (u : GUnit) : AVal := .agg [.str u.serial, sl 1 vint u.values]
@[go_sem] theorem flat_vunit {u : GUnit} : (vunit u).flat = [.str u.serial, sl 1 vint u.values] := rfl
theorem below_vunit {n : Nat} (u : GUnit) : below n (vunit u) = true := by simp only [vunit, go_sem]
@[go_sem] theorem below_units {n : Nat} {l : Option (List GUnit)} : below n (sl 2 vunit l) = true := below_sl below_vunit
def ownI (o : Option (List Int)) : Option (List Int) := some (o.getD [])
theorem I62 (o : Option (List Int)) (hn : (o.getD []).length ≤ 1073741824) : callIso pr (X pr) 62 [sl 1 vint o] = some (sl 1 vint (ownI o), true) := by
  have : callFn pr (X pr) 62 [sl 1 vint o] [] = some (sl 1 vint (ownI o), true, []) := by
    rw [callFn_at (show pr.fns 62 = some c62 from rfl) (by simp)]
    show _ = some (AVal.list false 1 ((o.getD []).map vint), true, [])
    simp only [go_sem, List.length_map, Nat.zero_add, hn, reduceIte, Nat.reduceEqDiff, Nat.reduceAdd, Nat.reduceSub, Nat.reduceLT, Nat.reduceLeDiff, Nat.reduceMul, Int.reduceLT, Int.reduceLE, Int.reduceEq, Int.reduceNe, Int.reduceAdd, Int.reduceSub, Int.reduceNeg, Int.reduceMul]
  exact callIso_of rfl this (by simp only [go_sem, reduceIte, Nat.reduceEqDiff, Nat.reduceAdd, Nat.reduceSub, Nat.reduceLT, Nat.reduceLeDiff, Nat.reduceMul, Int.reduceLT, Int.reduceLE, Int.reduceEq, Int.reduceNe, Int.reduceAdd, Int.reduceSub, Int.reduceNeg, Int.reduceMul]) (by simp only [go_sem, reduceIte, Nat.reduceEqDiff, Nat.reduceAdd, Nat.reduceSub, Nat.reduceLT, Nat.reduceLeDiff, Nat.reduceMul, Int.reduceLT, Int.reduceLE, Int.reduceEq, Int.reduceNe, Int.reduceAdd, Int.reduceSub, Int.reduceNeg, Int.reduceMul])
end Go.Z
/-
  Lists of units; comparisons; sizes; names: their runs.
-/
set_option maxRecDepth 100000
set_option linter.unusedSimpArgs false
namespace Go.Z
open Go Go.Abs
attribute [go_sem] below_vunit
def acc {α : Type} (z : Nat) (f : α → AVal) (l : List α) : AVal := match l with
  | [] => .list true 0 []
  | a :: l => .list false z ((a :: l).map f)
def accO {α : Type} (l : List α) : Bool := !l.isEmpty
def nonNil {α : Type} (l : List α) : Option (List α) := match l with
  | [] => none
  | a :: l => some (a :: l)
theorem acc_sl {α : Type} {z : Nat} {f : α → AVal} (l : List α) : acc z f l = sl z f (nonNil l) := by cases l <;> rfl
@[go_sem] theorem acc_nil {α : Type} {z : Nat} {f : α → AVal} : acc z f [] = .list true 0 [] := rfl
@[go_sem] theorem accO_nil {α : Type} : accO (α := α) [] = false := rfl
theorem below_acc {α : Type} {n z : Nat} {f : α → AVal} (hf : ∀ x, below n (f x) = true) (l : List α) : below n (acc z f l) = true := by
  rw [acc_sl]; exact below_sl hf
@[go_sem] theorem apRes_f {n : Bool} {z : Nat} {xs : List AVal} {y : AVal} {ys : List AVal} : apRes n z xs (y :: ys) = .list false z (xs ++ y :: ys) := by
  cases n <;> rfl
@[go_sem] theorem belowEnv_nil {n : Nat} : belowEnv n [] = true := rfl
@[go_sem] theorem belowEnv_cons {n t : Nat} {v : AVal} {o : Bool} {e : Env} : belowEnv n ((t, v, o) :: e) = (below n v && belowEnv n e) := rfl
@[go_sem] theorem loadR_vunit {h0 : Nat} {al : Option (List Nat)} {h : Heap} {u : GUnit} : loadR h0 al true 2 h (some (.vptr (vunit u))) = some ⟨.agg [.str u.serial, sl 1 vint u.values], false, none, h⟩ := rfl
end Go.Z
/-
  Names: their runs.
-/
set_option maxRecDepth 100000
set_option linter.unusedSimpArgs false
namespace Go.Z
open Go Go.Abs
end Go.Z
/-
  The checks of units and masks: their runs.
-/
set_option maxRecDepth 100000
set_option linter.unusedSimpArgs false
namespace Go.Z
open Go Go.Abs
@[go_sem] theorem afterShared_same {h : Heap} {v : AVal} : afterShared h.length v h = h := by
  unfold afterShared; rw [Nat.ble_eq_true_of_le (Nat.le_refl _)]; rfl
@[go_sem] theorem afterShared_nil {v : AVal} : afterShared 0 v [] = [] := rfl
end Go.Z
/-
  The checks of lists of units and of masks: their runs.
-/
set_option maxRecDepth 100000
set_option linter.unusedSimpArgs false
namespace Go.Z
open Go Go.Abs
theorem runL_first {α : Type} (q : α → Int) : ∀ (l : List α) (i : Nat), runL (γ := Unit) (δ := Int) (fun _ _ x => if q x = 0 then .inl () else .inr (q x)) i () l = if firstNZ (l.map q) = 0 then .inl () else .inr (firstNZ (l.map q))
  | [], _ => rfl
  | x :: l, i => by
    simp only [runL, List.map_cons, firstNZ]
    by_cases hz : q x = 0
    · simp only [hz, if_true]
      exact runL_first q l (i + 1)
    · simp only [if_neg hz]
@[go_sem] theorem fieldAddr_vunit0 {h : Heap} {u : GUnit} : fieldAddrR false 0 1 h (some (.vptr (vunit u))) = some ⟨.vptr (.str u.serial), false, none, h⟩ := rfl
@[go_sem] theorem fieldAddr_vunit1 {h : Heap} {u : GUnit} : fieldAddrR false 1 1 h (some (.vptr (vunit u))) = some ⟨.vptr (sl 1 vint u.values), false, none, h⟩ := by
  show vptrR false h (some (sl 1 vint u.values)) = _
  rw [vptrR_sl]
end Go.Z
/-
  The product's check of a list of units: its run.
-/
set_option maxRecDepth 100000
set_option linter.unusedSimpArgs false
namespace Go.Z
open Go Go.Abs
end Go.Z
