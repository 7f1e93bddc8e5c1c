/-
  Decisions, with errors: the runs.
-/
import Derived.Test.YtbkpojiedkhfkaaGreatP7

set_option linter.unusedVariables false
set_option linter.unusedSimpArgs false

set_option maxRecDepth 100000
set_option linter.unusedSimpArgs false
namespace Go.Z
open Go Go.Abs

def decA (L S A : Int) (n : Nat) : Int := firstNZ [planE L S A, whenE (decide (S < (n : Int))) 5]
/-- what is decided: accepted, at which result, the error -/
def decV (L S A : Int) (l : List Bool) : Bool × Int × Int := if decA L S A l.length = 0 then decR S A l else (false, 0, decA L S A l.length)
theorem decA_plan {L S A : Int} {n : Nat} (h : decA L S A n = 0) : planE L S A = 0 := firstNZ_zero h _ (List.mem_cons_self ..)
theorem decA_len {L S A : Int} {n : Nat} (h : decA L S A n = 0) : (n : Int) ≤ S := by
  have := whenE_zero (by decide) (firstNZ_zero h _ (List.mem_cons_of_mem _ (List.mem_cons_self ..)))
  simp only [decide_eq_false_iff_not] at this
  omega
theorem plan_S {L S A : Int} (h : planE L S A = 0) : -1000 ≤ S ∧ S ≤ 1000 := by
  obtain ⟨l, s, a, h1, h2, h3, h4, h5, h6, h7, h8⟩ := plan_ok h
  omega

theorem I44 (L S A : Int) (o : Option (List Bool)) (hn : (o.getD []).length ≤ 1000) :
    callIso pr (X pr) 44 [.agg [.int .i64 L, .int .i64 S, .int .i64 A], sl 1 vbool o] = some (.tup [.bool (decV L S A (o.getD [])).1, .int .i64 (decV L S A (o.getD [])).2.1, .int .i64 (decV L S A (o.getD [])).2.2], false) := by
  have : ∃ hh, callFn pr (X pr) 44 [.agg [.int .i64 L, .int .i64 S, .int .i64 A], sl 1 vbool o] [] = some (.tup [.bool (decV L S A (o.getD [])).1, .int .i64 (decV L S A (o.getD [])).2.1, .int .i64 (decV L S A (o.getD [])).2.2], false, hh) := by
    rw [callFn_at (show pr.fns 44 = some c44 from rfl) (by simp)]
    have hA : firstNZ [planE L S A, whenE (decide (S < ((o.getD []).length : Int))) 5] = decA L S A (o.getD []).length := rfl
    by_cases hz : decA L S A (o.getD []).length = 0
    · have hl := l44 L S A o hn (plan_S (decA_plan hz))
      have hv : decV L S A (o.getD []) = decR S A (o.getD []) := if_pos hz
      rw [hv]
      unfold decR
      simp only [pBox] at hl
      cases hr : runL (stepDec S A) 0 0 (o.getD []) with
      | inl bad =>
        rw [hr, outL_inl] at hl
        simp only [go_sem, c44, I50, I89, I87_2, hA, hz, hl, reduceIte, Nat.reduceEqDiff, Nat.reduceAdd, Nat.reduceSub, Nat.reduceLT, Nat.reduceLeDiff, Nat.reduceMul, Int.reduceLT, Int.reduceLE, Int.reduceEq, Int.reduceNe, Int.reduceAdd, Int.reduceSub, Int.reduceNeg, Int.reduceMul]
        exact ⟨_, rfl⟩
      | inr r =>
        rw [hr, outL_inr] at hl
        simp only [go_sem, c44, I50, I89, I87_2, hA, hz, hl, reduceIte, Nat.reduceEqDiff, Nat.reduceAdd, Nat.reduceSub, Nat.reduceLT, Nat.reduceLeDiff, Nat.reduceMul, Int.reduceLT, Int.reduceLE, Int.reduceEq, Int.reduceNe, Int.reduceAdd, Int.reduceSub, Int.reduceNeg, Int.reduceMul]
        exact ⟨_, rfl⟩
    · have hv : decV L S A (o.getD []) = (false, 0, decA L S A (o.getD []).length) := if_neg hz
      rw [hv]
      simp only [go_sem, c44, I50, I89, I87_2, hA, hz, reduceIte, Nat.reduceEqDiff, Nat.reduceAdd, Nat.reduceSub, Nat.reduceLT, Nat.reduceLeDiff, Nat.reduceMul, Int.reduceLT, Int.reduceLE, Int.reduceEq, Int.reduceNe, Int.reduceAdd, Int.reduceSub, Int.reduceNeg, Int.reduceMul]
      exact ⟨_, rfl⟩
  obtain ⟨hh, this⟩ := this
  exact callIso_of rfl this rfl rfl

theorem I49 (L S A : Int) (o : Option (List Bool)) (hn : (o.getD []).length ≤ 1000) (hp : planE L S A = 0) :
    callIso pr (X pr) 49 [.agg [.int .i64 L, .int .i64 S, .int .i64 A], sl 1 vbool o] = some (.tup [.bool (decV L S A (o.getD [])).1, .int .i64 (decV L S A (o.getD [])).2.1, .int .i64 (decV L S A (o.getD [])).2.2], false) := by
  have : ∃ hh, callFn pr (X pr) 49 [.agg [.int .i64 L, .int .i64 S, .int .i64 A], sl 1 vbool o] [] = some (.tup [.bool (decV L S A (o.getD [])).1, .int .i64 (decV L S A (o.getD [])).2.1, .int .i64 (decV L S A (o.getD [])).2.2], false, hh) := by
    rw [callFn_at (show pr.fns 49 = some c49 from rfl) (by simp)]
    by_cases hs : S < ((o.getD []).length : Int)
    · have hz : decA L S A (o.getD []).length = 5 := by
        unfold decA; simp only [firstNZ, hp, hs, decide_true, whenE]; rfl
      have hv : decV L S A (o.getD []) = (false, 0, 5) := by unfold decV; rw [if_neg (by rw [hz]; decide), hz]
      rw [hv]
      simp only [go_sem, c49, hs, reduceIte, Nat.reduceEqDiff, Nat.reduceAdd, Nat.reduceSub, Nat.reduceLT, Nat.reduceLeDiff, Nat.reduceMul, Int.reduceLT, Int.reduceLE, Int.reduceEq, Int.reduceNe, Int.reduceAdd, Int.reduceSub, Int.reduceNeg, Int.reduceMul]
      exact ⟨_, rfl⟩
    · have hz : decA L S A (o.getD []).length = 0 := by
        unfold decA; simp only [firstNZ, hp, hs, decide_false, whenE]; rfl
      have hl := l49 L S A o hn (plan_S hp)
      have hv : decV L S A (o.getD []) = decR S A (o.getD []) := if_pos hz
      rw [hv]
      unfold decR
      simp only [pBox] at hl
      cases hr : runL (stepDec S A) 0 0 (o.getD []) with
      | inl bad =>
        rw [hr, outL_inl] at hl
        simp only [go_sem, c49, hs, hl, reduceIte, Nat.reduceEqDiff, Nat.reduceAdd, Nat.reduceSub, Nat.reduceLT, Nat.reduceLeDiff, Nat.reduceMul, Int.reduceLT, Int.reduceLE, Int.reduceEq, Int.reduceNe, Int.reduceAdd, Int.reduceSub, Int.reduceNeg, Int.reduceMul]
        exact ⟨_, rfl⟩
      | inr r =>
        rw [hr, outL_inr] at hl
        simp only [go_sem, c49, hs, hl, reduceIte, Nat.reduceEqDiff, Nat.reduceAdd, Nat.reduceSub, Nat.reduceLT, Nat.reduceLeDiff, Nat.reduceMul, Int.reduceLT, Int.reduceLE, Int.reduceEq, Int.reduceNe, Int.reduceAdd, Int.reduceSub, Int.reduceNeg, Int.reduceMul]
        exact ⟨_, rfl⟩
  obtain ⟨hh, this⟩ := this
  exact callIso_of rfl this rfl rfl

end Go.Z
