/-
  Contracts as functions, for the printed walks: lists of numbers.
-/
import Derived.Test.YtbkpojiedkhfkaaGreatG0m
import Derived.Test.YtbkpojiedkhfkaaGreatG0b
import Derived.Test.YtbkpojiedkhfkaaGreatL8
import Derived.Test.YtbkpojiedkhfkaaGreatL14
set_option linter.unusedVariables false
set_option linter.unusedSimpArgs false
set_option maxRecDepth 100000
set_option linter.unusedSimpArgs false
namespace Go.Z
open Go Go.Abs
noncomputable def E14 : Option Bool := some true
theorem WE14 {r} (h : E14 = some r) : callIso pr (X pr) 14 [] = some (.bool r, false) := by cases h; exact I14
noncomputable def E23 (n lo hi : Int) : Option Int := some (checkRange n lo hi)
theorem WE23 {n lo hi r} (h : E23 n lo hi = some r) : callIso pr (X pr) 23 [.int .i64 n, .int .i64 lo, .int .i64 hi] = some (.int .i64 r, false) := by cases h; exact I23 ..
theorem WE88 {n lo hi r} (h : E23 n lo hi = some r) : callIso pr (X pr) 88 [.int .i64 n, .int .i64 lo, .int .i64 hi] = some (.int .i64 r, false) := by cases h; exact I88 ..
noncomputable def E24 (b : Bool) (e : Int) : Option Int := some (whenE b e)
theorem WE96 {b e r} (h : E24 b e = some r) : callIso pr (X pr) 96 [.bool b, .int .i64 e] = some (.int .i64 r, false) := by cases h; exact I96 ..
theorem WE89 {b e r} (h : E24 b e = some r) : callIso pr (X pr) 89 [.bool b, .int .i64 e] = some (.int .i64 r, false) := by cases h; exact I89 ..
noncomputable def E82 (o : Option (List Int)) (lo hi : Int) : Option Int := exO ((o.getD []).length ≤ 9223372036854775807) (checkEach lo hi (o.getD []))
theorem WE82 {o lo hi r} (h : E82 o lo hi = some r) : callIso pr (X pr) 82 [sl 1 vint o, .int .i64 lo, .int .i64 hi] = some (.int .i64 r, false) := by obtain ⟨h1, rfl⟩ := exO_some h; exact I82 _ _ _ h1
noncomputable def E94 (o : Option (List Int)) : Option Int := exO ((o.getD []).length ≤ 9223372036854775807 ∧ o ≠ none) (firstNZ (o.getD []))
theorem WE94 {o r} (h : E94 o = some r) : callIso pr (X pr) 94 [sl 1 vint o] = some (.int .i64 r, false) := by obtain ⟨h1, rfl⟩ := exO_some h; exact I94 _ h1.1
noncomputable def E62 (o : Option (List Int)) : Option (Option (List Int)) := exO ((o.getD []).length ≤ 1073741824) (ownI o)
theorem WE62 {o r} (h : E62 o = some r) : callIso pr (X pr) 62 [sl 1 vint o] = some (sl 1 vint r, true) := by obtain ⟨h1, rfl⟩ := exO_some h; exact I62 _ h1
def E142n (o : Option (List Int)) : Option Unit := if o.isNone then some () else none
theorem WE142n {o r} (h : E142n o = some r) : callIso pr (X pr) 142 [sl 1 vint o] = some (.list true 0 [], false) := by
  cases o with
  | some l => cases h
  | none =>
    have : callFn pr (X pr) 142 [sl 1 vint (none : Option (List Int))] [] = some (.list true 0 [], false, []) := by
      rw [callFn_at (show pr.fns 142 = some c142 from rfl) (by simp)]
      simp only [go_sem, c142, Option.isNone_none, reduceIte, Nat.reduceEqDiff, Nat.reduceAdd, Nat.reduceSub, Nat.reduceLT, Nat.reduceLeDiff, Nat.reduceMul, Int.reduceLT, Int.reduceLE, Int.reduceEq, Int.reduceNe, Int.reduceAdd, Int.reduceSub, Int.reduceNeg, Int.reduceMul]
    exact callIso_of rfl this rfl rfl
noncomputable def E142 (o : Option (List Int)) : Option (Option (List Int)) := exO ((o.getD []).length ≤ 1073741824 ∧ o ≠ none) o
theorem WE142 {o r} (h : E142 o = some r) : callIso pr (X pr) 142 [sl 1 vint o] = some (sl 1 vint r, true) := by
  obtain ⟨h1, rfl⟩ := exO_some h
  cases o with
  | none => exact absurd rfl h1.2
  | some l =>
    have hl : l.length ≤ 1073741824 := h1.1
    have : callFn pr (X pr) 142 [sl 1 vint (some l)] [] = some (.list false 1 (l.map vint), true, []) := by
      rw [callFn_at (show pr.fns 142 = some c142 from rfl) (by simp)]
      simp only [go_sem, c142, Option.isNone_some, Option.getD_some, List.length_map, Nat.zero_add, hl, reduceIte, Nat.reduceEqDiff, Nat.reduceAdd, Nat.reduceSub, Nat.reduceLT, Nat.reduceLeDiff, Nat.reduceMul, Int.reduceLT, Int.reduceLE, Int.reduceEq, Int.reduceNe, Int.reduceAdd, Int.reduceSub, Int.reduceNeg, Int.reduceMul]
    exact callIso_of rfl this rfl (by simp only [go_sem, reduceIte, Nat.reduceEqDiff, Nat.reduceAdd, Nat.reduceSub, Nat.reduceLT, Nat.reduceLeDiff, Nat.reduceMul, Int.reduceLT, Int.reduceLE, Int.reduceEq, Int.reduceNe, Int.reduceAdd, Int.reduceSub, Int.reduceNeg, Int.reduceMul])
end Go.Z
