/-
  Contracts as functions, for the printed walks: lists of numbers.
-/
import Derived.Test.YtbkpojiedkhfkaaGreatG0m
import Derived.Test.YtbkpojiedkhfkaaGreatG0b
import Derived.Test.YtbkpojiedkhfkaaGreatL8
import Derived.Test.YtbkpojiedkhfkaaGreatL14
set_option linter.unusedVariables false
set_option linter.unusedSimpArgs false
set_option maxRecDepth 100000
set_option linter.unusedSimpArgs false
namespace Go.Z
open Go Go.Abs
noncomputable def E14 : Option Bool := some true
theorem WE14 {r} (h : E14 = some r) : callIso pr (X pr) 14 [] = some (.bool r, false) := by cases h; exact I14
noncomputable def E23 (n lo hi : Int) : Option Int := some (checkRange n lo hi)
theorem WE23 {n lo hi r} (h : E23 n lo hi = some r) : callIso pr (X pr) 23 [.int .i64 n, .int .i64 lo, .int .i64 hi] = some (.int .i64 r, false) := by cases h; exact I23 ..
noncomputable def E24 (b : Bool) (e : Int) : Option Int := some (whenE b e)
theorem WE24 {b e r} (h : E24 b e = some r) : callIso pr (X pr) 24 [.bool b, .int .i64 e] = some (.int .i64 r, false) := by cases h; exact I24 ..
theorem WE96 {b e r} (h : E24 b e = some r) : callIso pr (X pr) 96 [.bool b, .int .i64 e] = some (.int .i64 r, false) := by cases h; exact I96 ..
theorem WE89 {b e r} (h : E24 b e = some r) : callIso pr (X pr) 89 [.bool b, .int .i64 e] = some (.int .i64 r, false) := by cases h; exact I89 ..
noncomputable def E94 (o : Option (List Int)) : Option Int := exO ((o.getD []).length ≤ 9223372036854775807 ∧ o ≠ none) (firstNZ (o.getD []))
theorem WE94 {o r} (h : E94 o = some r) : callIso pr (X pr) 94 [sl 1 vint o] = some (.int .i64 r, false) := by obtain ⟨h1, rfl⟩ := exO_some h; exact I94 _ h1.1
theorem WE87 {o r} (h : E94 o = some r) : callIso pr (X pr) 87 [sl 1 vint o] = some (.int .i64 r, false) := by
  obtain ⟨h1, rfl⟩ := exO_some h
  cases o with
  | none => exact absurd rfl h1.2
  | some l => exact I87 l h1.1
noncomputable def E40 (a e bad want : Int) : Option Bool := some (numB a e bad want)
theorem WE40 {a e bad want r} (h : E40 a e bad want = some r) : callIso pr (X pr) 40 [.int .i64 a, .int .i64 e, .int .i64 bad, .int .i64 want] = some (.bool r, false) := by cases h; exact I40 ..
noncomputable def E21 (o : Option (List Int)) : Option Int := exO (∃ l, o = some l ∧ l.length ≤ 100) (firstNZ (o.getD []))
theorem WE21 {o r} (h : E21 o = some r) : callIso pr (X pr) 21 [sl 1 vint o] = some (.int .i64 r, false) := by obtain ⟨⟨l, rfl, hl⟩, rfl⟩ := exO_some h; exact I21 _ hl
end Go.Z
