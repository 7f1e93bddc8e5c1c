/-
  Greatest risks: their checks; comparisons: the runs.
-/
import Derived.Test.YtbkpojiedkhfkaaGreatP4
set_option linter.unusedVariables false
set_option linter.unusedSimpArgs false
set_option maxRecDepth 100000
set_option linter.unusedSimpArgs false
namespace Go.Z
open Go Go.Abs
@[go_sem] theorem eqs2n {h : Heap} {a b c d : Int} : eqsR [.int, .int] true h (some (.agg [.int .i64 a, .int .i64 b])) (some (.agg [.int .i64 c, .int .i64 d])) = some ⟨.bool (!(decide (a = c) && decide (b = d))), false, none, h⟩ := by
  show (match eqCells [.int, .int] [.int .i64 a, .int .i64 b] [.int .i64 c, .int .i64 d] with | some t => val h (.bool (bif true then !t else t)) | none => none) = _
  have : eqCells [.int, .int] [.int .i64 a, .int .i64 b] [.int .i64 c, .int .i64 d] = some (decide (a = c) && decide (b = d)) := by
    have e : ∀ x y : Int, (x == y) = decide (x = y) := fun x y => by by_cases h : x = y <;> simp [h]
    simp only [eqCells, eqCell, e, decide_true, cond_true]
    by_cases h1 : a = c <;> by_cases h2 : b = d <;> simp [h1, h2]
  rw [this]
  rfl
def ratA (x d : Int) : Int := firstNZ [checkRange x 0 999999999, checkRange d 1 999999999]
def ratE (x d : Int) : Int := if ratA x d = 0 then firstNZ [whenE (!(decide (x = ratN x.toNat d.toNat) && decide (d = ratD x.toNat d.toNat))) 1, whenE (decide (d < x)) 3] else ratA x d
theorem I52 (x d : Int) : callIso pr (X pr) 52 [.agg [.int .i64 x, .int .i64 d]] = some (.int .i64 (ratE x d), false) := by
  have : ∃ hh, callFn pr (X pr) 52 [.agg [.int .i64 x, .int .i64 d]] [] = some (.int .i64 (ratE x d), false, hh) := by
    rw [callFn_at (show pr.fns 52 = some c52 from rfl) (by simp)]
    have hA : firstNZ [checkRange x 0 999999999, checkRange d 1 999999999] = ratA x d := rfl
    by_cases hz : ratA x d = 0
    · have h1 := checkRange_zero (firstNZ_zero hz _ (List.mem_cons_self ..))
      have h2 := checkRange_zero (firstNZ_zero hz _ (List.mem_cons_of_mem _ (List.mem_cons_self ..)))
      have h102 := I102 x.toNat d.toNat (by omega) (by omega)
      rw [show ((x.toNat : Nat) : Int) = x by omega, show ((d.toNat : Nat) : Int) = d by omega] at h102
      have hE : ratE x d = firstNZ [whenE (!(decide (x = ratN x.toNat d.toNat) && decide (d = ratD x.toNat d.toNat))) 1, whenE (decide (d < x)) 3] := if_pos hz
      rw [hE]
      simp only [go_sem, c52, I23, I94_2, hA, hz, h102, I96, reduceIte, Nat.reduceEqDiff, Nat.reduceAdd, Nat.reduceSub, Nat.reduceLT, Nat.reduceLeDiff, Nat.reduceMul, Int.reduceLT, Int.reduceLE, Int.reduceEq, Int.reduceNe, Int.reduceAdd, Int.reduceSub, Int.reduceNeg, Int.reduceMul]
      exact ⟨_, rfl⟩
    · have hE : ratE x d = ratA x d := if_neg hz
      rw [hE]
      simp only [go_sem, c52, I23, I94_2, hA, hz, reduceIte, Nat.reduceEqDiff, Nat.reduceAdd, Nat.reduceSub, Nat.reduceLT, Nat.reduceLeDiff, Nat.reduceMul, Int.reduceLT, Int.reduceLE, Int.reduceEq, Int.reduceNe, Int.reduceAdd, Int.reduceSub, Int.reduceNeg, Int.reduceMul]
      exact ⟨_, rfl⟩
  obtain ⟨hh, this⟩ := this
  exact callIso_of rfl this rfl rfl
theorem I109 (x d : Int) : callIso pr (X pr) 109 [.agg [.int .i64 x, .int .i64 d]] = some (.int .i64 (ratE x d), false) := by
  have : ∃ hh, callFn pr (X pr) 109 [.agg [.int .i64 x, .int .i64 d]] [] = some (.int .i64 (ratE x d), false, hh) := by
    rw [callFn_at (show pr.fns 109 = some c109 from rfl) (by simp)]
    have hA : firstNZ [checkRange x 0 999999999, checkRange d 1 999999999] = ratA x d := rfl
    by_cases hz : ratA x d = 0
    · have h1 := checkRange_zero (firstNZ_zero hz _ (List.mem_cons_self ..))
      have h2 := checkRange_zero (firstNZ_zero hz _ (List.mem_cons_of_mem _ (List.mem_cons_self ..)))
      have h101 := I101 x.toNat d.toNat (by omega)
      rw [show ((x.toNat : Nat) : Int) = x by omega, show ((d.toNat : Nat) : Int) = d by omega] at h101
      have hE : ratE x d = firstNZ [whenE (!(decide (x = ratN x.toNat d.toNat) && decide (d = ratD x.toNat d.toNat))) 1, whenE (decide (d < x)) 3] := if_pos hz
      rw [hE]
      simp only [go_sem, c109, I88, I87_2, hA, hz, h101, I89, reduceIte, Nat.reduceEqDiff, Nat.reduceAdd, Nat.reduceSub, Nat.reduceLT, Nat.reduceLeDiff, Nat.reduceMul, Int.reduceLT, Int.reduceLE, Int.reduceEq, Int.reduceNe, Int.reduceAdd, Int.reduceSub, Int.reduceNeg, Int.reduceMul]
      exact ⟨_, rfl⟩
    · have hE : ratE x d = ratA x d := if_neg hz
      rw [hE]
      simp only [go_sem, c109, I88, I87_2, hA, hz, reduceIte, Nat.reduceEqDiff, Nat.reduceAdd, Nat.reduceSub, Nat.reduceLT, Nat.reduceLeDiff, Nat.reduceMul, Int.reduceLT, Int.reduceLE, Int.reduceEq, Int.reduceNe, Int.reduceAdd, Int.reduceSub, Int.reduceNeg, Int.reduceMul]
      exact ⟨_, rfl⟩
  obtain ⟨hh, this⟩ := this
  exact callIso_of rfl this rfl rfl
def aboveB (a b c d : Int) : Bool := decide (wrapF .i64 (c * b) < wrapF .i64 (a * d))
theorem I110 (a b c d : Int) : callIso pr (X pr) 110 [.agg [.int .i64 a, .int .i64 b], .agg [.int .i64 c, .int .i64 d]] = some (.bool (aboveB a b c d), false) := by
  have : ∃ hh, callFn pr (X pr) 110 [.agg [.int .i64 a, .int .i64 b], .agg [.int .i64 c, .int .i64 d]] [] = some (.bool (aboveB a b c d), false, hh) := by
    rw [callFn_at (show pr.fns 110 = some c110 from rfl) (by simp)]
    simp only [go_sem, c110, aboveB, reduceIte, Nat.reduceEqDiff, Nat.reduceAdd, Nat.reduceSub, Nat.reduceLT, Nat.reduceLeDiff, Nat.reduceMul, Int.reduceLT, Int.reduceLE, Int.reduceEq, Int.reduceNe, Int.reduceAdd, Int.reduceSub, Int.reduceNeg, Int.reduceMul]
    exact ⟨_, rfl⟩
  obtain ⟨hh, this⟩ := this
  exact callIso_of rfl this rfl rfl
end Go.Z
