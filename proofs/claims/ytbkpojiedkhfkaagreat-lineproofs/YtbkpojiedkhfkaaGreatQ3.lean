/-
  LinePairs: the typical unit.
-/
import Derived.Test.YtbkpojiedkhfkaaGreatQ1
import Derived.Test.YtbkpojiedkhfkaaGreatR2
set_option linter.unusedVariables false
set_option linter.unusedSimpArgs false
set_option maxRecDepth 100000
set_option linter.unusedSimpArgs false
set_option linter.unusedVariables false
namespace Go.Z
open Go Go.Abs
end Go.Z
/-
  LinePairs: pairings are checked, both ways.
-/
set_option maxRecDepth 100000
set_option linter.unusedSimpArgs false
set_option linter.unusedVariables false
namespace Go.Z
open Go Go.Abs
theorem E94_3 (a b c : Int) : E94 (some [a, b, c]) = some (firstNZ [a, b, c]) := exO_of ⟨by simp, by simp⟩
end Go.Z
/-
  LinePairs: the reference's check of a pairing.
-/
set_option maxRecDepth 100000
set_option linter.unusedSimpArgs false
set_option linter.unusedVariables false
namespace Go.Z
open Go Go.Abs
theorem f124_eq {o : Option (List Int)} {l : List Int} {x : Int} (h : o.getD [] = l) (hn : l.length ≤ 1000) : f124 o x = some (memI l x) := by
  have key : ∀ (m i : Nat), i + m = l.length → itO (s124_0 o x) (i : Int) = some (bif (l.drop i).contains x then .inl () else .inr (l.length : Int)) := by
    intro m
    induction m with
    | zero =>
      intro i hi
      have hlt : ¬ (i : Int) < (l.length : Int) := by omega
      have e : l.drop i = [] := List.drop_eq_nil_of_le (by omega)
      have e2 : (i : Int) = (l.length : Int) := by omega
      rw [e]
      refine itO_out ?_
      unfold s124_0
      have hlt2 : ¬ (l.length : Int) < (l.length : Int) := by omega
      simp only [h, e2, hlt2, decide_false, cond_false]
      rfl
    | succ m ih =>
      intro i hi
      have hil : i < l.length := by omega
      have hlt : (i : Int) < (l.length : Int) := by omega
      rw [List.drop_eq_getElem_cons hil, List.contains_cons]
      by_cases he : l[i] = x
      · have hb : (x == l[i]) = true := by rw [he]; exact beq_self_eq_true x
        rw [hb, Bool.true_or]
        refine itO_out ?_
        unfold s124_0
        simp only [h, hlt, decide_true, cond_true, idxO_nat, List.getElem?_eq_getElem hil, obind_at, he]
      · have hb : (x == l[i]) = false := by
          rw [beq_eq_false_iff_ne]; exact fun e => he e.symm
        have hs : s124_0 o x (i : Int) = some (.inl ((i + 1 : Nat) : Int)) := by
          unfold s124_0
          simp only [h, hlt, decide_true, cond_true, idxO_nat, List.getElem?_eq_getElem hil, obind_at, he, decide_false, cond_false, wrap_nat (show i < 9223372036854775807 by omega)]
        rw [itO_in hs, hb, Bool.false_or]
        exact ih (i + 1) (by omega)
  have := key l.length 0 (by omega)
  rw [Int.natCast_zero, List.drop_zero] at this
  unfold f124 memI
  rw [this]
  cases l.contains x <;> rfl
theorem range_iff (x n : Int) : (checkRange x 0 (n - 1) = 0) = (0 ≤ x ∧ x < n) := by
  unfold checkRange
  apply propext
  constructor
  · intro h
    by_cases h1 : x < 0
    · rw [if_pos h1] at h; cases h
    · rw [if_neg h1] at h
      by_cases h2 : n - 1 < x
      · rw [if_pos h2] at h; cases h
      · omega
  · intro h
    rw [if_neg (by omega), if_neg (by omega)]
end Go.Z
