/-
  Copies, comparisons, sizes: their runs.
-/
import Derived.Test.YtbkpojiedkhfkaaGreatL1
set_option linter.unusedVariables false
set_option linter.unusedSimpArgs false
set_option maxRecDepth 100000
set_option linter.unusedSimpArgs false
namespace Go.Z
open Go Go.Abs
structure GUnit where
  serial : List UInt8
  values : Option (List Int)
def vunit (u : GUnit) : AVal := .agg [.str u.serial, sl 1 vint u.values]
@[go_sem] theorem flat_vunit {u : GUnit} : (vunit u).flat = [.str u.serial, sl 1 vint u.values] := rfl
theorem below_vunit {n : Nat} (u : GUnit) : below n (vunit u) = true := by simp only [vunit, go_sem]
@[go_sem] theorem below_units {n : Nat} {l : Option (List GUnit)} : below n (sl 2 vunit l) = true := below_sl below_vunit
def ownI (o : Option (List Int)) : Option (List Int) := some (o.getD [])
theorem I62 (o : Option (List Int)) (hn : (o.getD []).length ≤ 1073741824) : callIso pr (X pr) 62 [sl 1 vint o] = some (sl 1 vint (ownI o), true) := by
  have : callFn pr (X pr) 62 [sl 1 vint o] [] = some (sl 1 vint (ownI o), true, []) := by
    rw [callFn_at (show pr.fns 62 = some c62 from rfl) (by simp)]
    show _ = some (AVal.list false 1 ((o.getD []).map vint), true, [])
    simp only [go_sem, List.length_map, Nat.zero_add, hn, reduceIte, Nat.reduceEqDiff, Nat.reduceAdd, Nat.reduceSub, Nat.reduceLT, Nat.reduceLeDiff, Nat.reduceMul, Int.reduceLT, Int.reduceLE, Int.reduceEq, Int.reduceNe, Int.reduceAdd, Int.reduceSub, Int.reduceNeg, Int.reduceMul]
  exact callIso_of rfl this (by simp only [go_sem, reduceIte, Nat.reduceEqDiff, Nat.reduceAdd, Nat.reduceSub, Nat.reduceLT, Nat.reduceLeDiff, Nat.reduceMul, Int.reduceLT, Int.reduceLE, Int.reduceEq, Int.reduceNe, Int.reduceAdd, Int.reduceSub, Int.reduceNeg, Int.reduceMul]) (by simp only [go_sem, reduceIte, Nat.reduceEqDiff, Nat.reduceAdd, Nat.reduceSub, Nat.reduceLT, Nat.reduceLeDiff, Nat.reduceMul, Int.reduceLT, Int.reduceLE, Int.reduceEq, Int.reduceNe, Int.reduceAdd, Int.reduceSub, Int.reduceNeg, Int.reduceMul])
end Go.Z
