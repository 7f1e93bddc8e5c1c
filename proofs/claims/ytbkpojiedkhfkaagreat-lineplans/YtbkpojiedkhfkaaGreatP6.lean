/-
  Risks of the product, with errors; decisions: the runs.
-/
import Derived.Test.YtbkpojiedkhfkaaGreatP5

set_option linter.unusedVariables false
set_option linter.unusedSimpArgs false

set_option maxRecDepth 100000
set_option linter.unusedSimpArgs false
namespace Go.Z
open Go Go.Abs

def riskE (L S A g b : Int) : Int := firstNZ [planE L S A, defE L g b]
theorem I43ok {l s a g b : Nat} (h : PlanN l s a) (hg : g ≤ l) (hb : b ≤ l) (hp : planE (l : Int) (s : Int) (a : Int) = 0) (hr : defE (l : Int) (g : Int) (b : Int) = 0) :
    callIso pr (X pr) 43 [.agg [.int .i64 (l : Int), .int .i64 (s : Int), .int .i64 (a : Int)], .int .i64 (g : Int), .int .i64 (b : Int)] =
    some (.tup [.agg [.int .i64 (ratN (ch l s - accN l s g a) (ch l s)), .int .i64 (ratD (ch l s - accN l s g a) (ch l s)), .int .i64 (ratN (accN l s b a) (ch l s)), .int .i64 (ratD (accN l s b a) (ch l s))], .int .i64 0], false) := by
  have h106 := I106 h hg hb
  have : ∃ hh, callFn pr (X pr) 43 [.agg [.int .i64 (l : Int), .int .i64 (s : Int), .int .i64 (a : Int)], .int .i64 (g : Int), .int .i64 (b : Int)] [] = some (.tup [.agg [.int .i64 (ratN (ch l s - accN l s g a) (ch l s)), .int .i64 (ratD (ch l s - accN l s g a) (ch l s)), .int .i64 (ratN (accN l s b a) (ch l s)), .int .i64 (ratD (accN l s b a) (ch l s))], .int .i64 0], false, hh) := by
    rw [callFn_at (show pr.fns 43 = some c43 from rfl) (by simp)]
    simp only [go_sem, c43, I50, hp, I105, hr, h106, reduceIte, Nat.reduceEqDiff, Nat.reduceAdd, Nat.reduceSub, Nat.reduceLT, Nat.reduceLeDiff, Nat.reduceMul, Int.reduceLT, Int.reduceLE, Int.reduceEq, Int.reduceNe, Int.reduceAdd, Int.reduceSub, Int.reduceNeg, Int.reduceMul]
    exact ⟨_, rfl⟩
  obtain ⟨hh, this⟩ := this
  exact callIso_of rfl this rfl rfl
theorem I43e (L S A g b : Int) (hz : ¬ riskE L S A g b = 0) : callIso pr (X pr) 43 [.agg [.int .i64 L, .int .i64 S, .int .i64 A], .int .i64 g, .int .i64 b] = some (.tup [.agg [.int .i64 0, .int .i64 0, .int .i64 0, .int .i64 0], .int .i64 (riskE L S A g b)], false) := by
  have : ∃ hh, callFn pr (X pr) 43 [.agg [.int .i64 L, .int .i64 S, .int .i64 A], .int .i64 g, .int .i64 b] [] = some (.tup [.agg [.int .i64 0, .int .i64 0, .int .i64 0, .int .i64 0], .int .i64 (riskE L S A g b)], false, hh) := by
    rw [callFn_at (show pr.fns 43 = some c43 from rfl) (by simp)]
    by_cases hp : planE L S A = 0
    · have he : riskE L S A g b = defE L g b := by
        unfold riskE; simp only [firstNZ, hp, if_true]; split <;> simp_all
      rw [he] at hz ⊢
      simp only [go_sem, c43, I50, hp, I105, hz, reduceIte, Nat.reduceEqDiff, Nat.reduceAdd, Nat.reduceSub, Nat.reduceLT, Nat.reduceLeDiff, Nat.reduceMul, Int.reduceLT, Int.reduceLE, Int.reduceEq, Int.reduceNe, Int.reduceAdd, Int.reduceSub, Int.reduceNeg, Int.reduceMul]
      exact ⟨_, rfl⟩
    · have he : riskE L S A g b = planE L S A := by unfold riskE; simp only [firstNZ, if_neg hp]
      rw [he]
      simp only [go_sem, c43, I50, hp, reduceIte, Nat.reduceEqDiff, Nat.reduceAdd, Nat.reduceSub, Nat.reduceLT, Nat.reduceLeDiff, Nat.reduceMul, Int.reduceLT, Int.reduceLE, Int.reduceEq, Int.reduceNe, Int.reduceAdd, Int.reduceSub, Int.reduceNeg, Int.reduceMul]
      exact ⟨_, rfl⟩
  obtain ⟨hh, this⟩ := this
  exact callIso_of rfl this rfl rfl

end Go.Z
