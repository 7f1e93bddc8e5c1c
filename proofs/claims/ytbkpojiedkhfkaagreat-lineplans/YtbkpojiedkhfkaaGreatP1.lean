/-
  Plans: numbers of ways, and the checks: the runs.
-/
import Derived.Test.YtbkpojiedkhfkaaGreatL16

set_option linter.unusedVariables false
set_option linter.unusedSimpArgs false

set_option maxRecDepth 100000
set_option linter.unusedSimpArgs false
namespace Go.Z
open Go Go.Abs

theorem range_at {n i t : Nat} (h : (List.range n)[i]? = some t) : t = i ∧ i < n := by
  obtain ⟨h1, h2⟩ := List.getElem?_eq_some_iff.1 h
  rw [List.length_range] at h1
  exact ⟨by simpa using h2.symm, h1⟩

/-! ### In how many ways some of n can be chosen -/
def stepBin (n : Int) (out : Int) (i : Nat) : Int := wrapF .i64 ((wrapF .i64 (out * wrapF .i64 (n - (i : Int)))).tdiv ((i + 1 : Nat) : Int))
def loopBin (n : Int) (k : Nat) : Int := (List.range k).foldl (stepBin n) 1
def binI (n k : Int) : Int := if k < 0 then 0 else if n < k then 0 else loopBin n k.toNat

theorem l107 (n : Int) (k : Nat) (hk : k ≤ 1073741824) (h : Heap) : X pr (.loop c107_0) ⟨[(0, .int .i64 n, false), (1, .int .i64 (k : Int), false), (5, .int .i64 1, false), (6, .int .i64 0, false)], h⟩ =
    some (.exit 0, ⟨[(0, .int .i64 n, false), (1, .int .i64 (k : Int), false), (5, .int .i64 (loopBin n k), false), (6, .int .i64 (k : Int), false), (16, .bool false, false)], h⟩) := by
  have hlen : (List.range k).length = k := List.length_range
  have := X_loop_list (p := pr) (c := c107_0) (δ := Empty) (List.range k) (fun i (s : Int) => ⟨[(0, .int .i64 n, false), (1, .int .i64 (k : Int), false), (5, .int .i64 s, false), (6, .int .i64 (i : Int), false)], h⟩)
    (fun _ s t => .inl (stepBin n s t)) (fun s => (.exit 0, ⟨[(0, .int .i64 n, false), (1, .int .i64 (k : Int), false), (5, .int .i64 s, false), (6, .int .i64 (k : Int), false), (16, .bool false, false)], h⟩))
    (fun d => nomatch d) (fun _ _ => True) 1 (fun _ h => by cases h) (fun d => nomatch d) ?_ ?_ trivial
  · rw [Int.natCast_zero, runL_fold (stepBin n)] at this
    exact this
  · intro s _
    have hlt : ¬ ((k : Int) < (k : Int)) := by omega
    simp only [hlen]
    simp only [go_sem, c107_0, hlt, reduceIte, Nat.reduceEqDiff, Nat.reduceAdd, Nat.reduceSub, Nat.reduceLT, Nat.reduceLeDiff, Nat.reduceMul, Int.reduceLT, Int.reduceLE, Int.reduceEq, Int.reduceNe, Int.reduceAdd, Int.reduceSub, Int.reduceNeg, Int.reduceMul]
  · intro i s t hx hi _
    obtain ⟨rfl, hi'⟩ := range_at hx
    have hlt : (t : Int) < (k : Int) := by omega
    have hw := wrap_succ hi' (by omega)
    have hne : ((t + 1 : Nat) : Int) ≠ 0 := by omega
    refine stepL_in rfl trivial ?_ (gc_same (Nat.le_refl _))
    simp only [go_sem, c107_0, hlt, hw, b_quo hne, stepBin, reduceIte, Nat.reduceEqDiff, Nat.reduceAdd, Nat.reduceSub, Nat.reduceLT, Nat.reduceLeDiff, Nat.reduceMul, Int.reduceLT, Int.reduceLE, Int.reduceEq, Int.reduceNe, Int.reduceAdd, Int.reduceSub, Int.reduceNeg, Int.reduceMul]
theorem I107 (n k : Int) (hk : k ≤ 1073741824) : callIso pr (X pr) 107 [.int .i64 n, .int .i64 k] = some (.int .i64 (binI n k), false) := by
  have : callFn pr (X pr) 107 [.int .i64 n, .int .i64 k] [] = some (.int .i64 (binI n k), false, []) := by
    rw [callFn_at (show pr.fns 107 = some c107 from rfl) (by simp)]
    by_cases h1 : k < 0
    · have hb : binI n k = 0 := if_pos h1
      rw [hb]
      simp only [go_sem, c107, h1, reduceIte, Nat.reduceEqDiff, Nat.reduceAdd, Nat.reduceSub, Nat.reduceLT, Nat.reduceLeDiff, Nat.reduceMul, Int.reduceLT, Int.reduceLE, Int.reduceEq, Int.reduceNe, Int.reduceAdd, Int.reduceSub, Int.reduceNeg, Int.reduceMul]
    · by_cases h2 : n < k
      · have hb : binI n k = 0 := by unfold binI; rw [if_neg h1, if_pos h2]
        rw [hb]
        simp only [go_sem, c107, h1, h2, reduceIte, Nat.reduceEqDiff, Nat.reduceAdd, Nat.reduceSub, Nat.reduceLT, Nat.reduceLeDiff, Nat.reduceMul, Int.reduceLT, Int.reduceLE, Int.reduceEq, Int.reduceNe, Int.reduceAdd, Int.reduceSub, Int.reduceNeg, Int.reduceMul]
      · have hb : binI n k = loopBin n k.toNat := by unfold binI; rw [if_neg h1, if_neg h2]
        have hl := l107 n k.toNat (by omega) []
        have hkk : ((k.toNat : Nat) : Int) = k := by omega
        rw [hkk] at hl
        rw [hb]
        simp only [go_sem, c107, h1, h2, hl, reduceIte, Nat.reduceEqDiff, Nat.reduceAdd, Nat.reduceSub, Nat.reduceLT, Nat.reduceLeDiff, Nat.reduceMul, Int.reduceLT, Int.reduceLE, Int.reduceEq, Int.reduceNe, Int.reduceAdd, Int.reduceSub, Int.reduceNeg, Int.reduceMul]
  exact callIso_of rfl this rfl rfl

theorem l137 (n : Int) (k : Nat) (hk : k ≤ 1073741824) (h : Heap) : X pr (.loop c137_0) ⟨[(0, .int .i64 n, false), (5, .int .i64 1, false), (14, .int .i64 (k : Int), false), (15, .int .i64 0, false)], h⟩ =
    some (.exit 0, ⟨[(0, .int .i64 n, false), (5, .int .i64 (loopBin n k), false), (14, .int .i64 (k : Int), false), (15, .int .i64 (k : Int), false), (16, .bool false, false)], h⟩) := by
  have hlen : (List.range k).length = k := List.length_range
  have := X_loop_list (p := pr) (c := c137_0) (δ := Empty) (List.range k) (fun i (s : Int) => ⟨[(0, .int .i64 n, false), (5, .int .i64 s, false), (14, .int .i64 (k : Int), false), (15, .int .i64 (i : Int), false)], h⟩)
    (fun _ s t => .inl (stepBin n s t)) (fun s => (.exit 0, ⟨[(0, .int .i64 n, false), (5, .int .i64 s, false), (14, .int .i64 (k : Int), false), (15, .int .i64 (k : Int), false), (16, .bool false, false)], h⟩))
    (fun d => nomatch d) (fun _ _ => True) 1 (fun _ h => by cases h) (fun d => nomatch d) ?_ ?_ trivial
  · rw [Int.natCast_zero, runL_fold (stepBin n)] at this
    exact this
  · intro s _
    have hlt : ¬ ((k : Int) < (k : Int)) := by omega
    simp only [hlen]
    simp only [go_sem, c137_0, hlt, reduceIte, Nat.reduceEqDiff, Nat.reduceAdd, Nat.reduceSub, Nat.reduceLT, Nat.reduceLeDiff, Nat.reduceMul, Int.reduceLT, Int.reduceLE, Int.reduceEq, Int.reduceNe, Int.reduceAdd, Int.reduceSub, Int.reduceNeg, Int.reduceMul]
  · intro i s t hx hi _
    obtain ⟨rfl, hi'⟩ := range_at hx
    have hlt : (t : Int) < (k : Int) := by omega
    have hw := wrap_succ hi' (by omega)
    have hne : ((t + 1 : Nat) : Int) ≠ 0 := by omega
    refine stepL_in rfl trivial ?_ (gc_same (Nat.le_refl _))
    simp only [go_sem, c137_0, hlt, hw, b_quo hne, stepBin, reduceIte, Nat.reduceEqDiff, Nat.reduceAdd, Nat.reduceSub, Nat.reduceLT, Nat.reduceLeDiff, Nat.reduceMul, Int.reduceLT, Int.reduceLE, Int.reduceEq, Int.reduceNe, Int.reduceAdd, Int.reduceSub, Int.reduceNeg, Int.reduceMul]
theorem I137 (n k : Int) (hk : k ≤ 1073741824) : callIso pr (X pr) 137 [.int .i64 n, .int .i64 k] = some (.int .i64 (binI n k), false) := by
  have : callFn pr (X pr) 137 [.int .i64 n, .int .i64 k] [] = some (.int .i64 (binI n k), false, []) := by
    rw [callFn_at (show pr.fns 137 = some c137 from rfl) (by simp)]
    by_cases h1 : k < 0
    · have hb : binI n k = 0 := if_pos h1
      rw [hb]
      simp only [go_sem, c137, h1, reduceIte, Nat.reduceEqDiff, Nat.reduceAdd, Nat.reduceSub, Nat.reduceLT, Nat.reduceLeDiff, Nat.reduceMul, Int.reduceLT, Int.reduceLE, Int.reduceEq, Int.reduceNe, Int.reduceAdd, Int.reduceSub, Int.reduceNeg, Int.reduceMul]
    · by_cases h2 : n < k
      · have hb : binI n k = 0 := by unfold binI; rw [if_neg h1, if_pos h2]
        rw [hb]
        simp only [go_sem, c137, h1, h2, reduceIte, Nat.reduceEqDiff, Nat.reduceAdd, Nat.reduceSub, Nat.reduceLT, Nat.reduceLeDiff, Nat.reduceMul, Int.reduceLT, Int.reduceLE, Int.reduceEq, Int.reduceNe, Int.reduceAdd, Int.reduceSub, Int.reduceNeg, Int.reduceMul]
      · have hb : binI n k = loopBin n k.toNat := by unfold binI; rw [if_neg h1, if_neg h2]
        have hl := l137 n k.toNat (by omega) []
        have hkk : ((k.toNat : Nat) : Int) = k := by omega
        rw [hkk] at hl
        rw [hb]
        simp only [go_sem, c137, h1, h2, hl, reduceIte, Nat.reduceEqDiff, Nat.reduceAdd, Nat.reduceSub, Nat.reduceLT, Nat.reduceLeDiff, Nat.reduceMul, Int.reduceLT, Int.reduceLE, Int.reduceEq, Int.reduceNe, Int.reduceAdd, Int.reduceSub, Int.reduceNeg, Int.reduceMul]
  exact callIso_of rfl this rfl rfl

/-! ### Plans -/
def planE (L S A : Int) : Int := firstNZ [checkRange L 1 30, checkRange S 1 L, checkRange A 0 (wrapF .i64 (S - 1))]
theorem I108 (n : Int) : callIso pr (X pr) 108 [.int .i64 n] = some (.int .i64 (checkRange n 1 30), false) := by
  have : callFn pr (X pr) 108 [.int .i64 n] [] = some (.int .i64 (checkRange n 1 30), false, []) := by
    rw [callFn_at (show pr.fns 108 = some c108 from rfl) (by simp)]
    simp only [go_sem, c108, I88, reduceIte, Nat.reduceEqDiff, Nat.reduceAdd, Nat.reduceSub, Nat.reduceLT, Nat.reduceLeDiff, Nat.reduceMul, Int.reduceLT, Int.reduceLE, Int.reduceEq, Int.reduceNe, Int.reduceAdd, Int.reduceSub, Int.reduceNeg, Int.reduceMul]
  exact callIso_of rfl this rfl rfl
theorem I45 (L S A : Int) : callIso pr (X pr) 45 [.agg [.int .i64 L, .int .i64 S, .int .i64 A]] = some (.int .i64 (planE L S A), false) := by
  have : ∃ hh, callFn pr (X pr) 45 [.agg [.int .i64 L, .int .i64 S, .int .i64 A]] [] = some (.int .i64 (planE L S A), false, hh) := by
    rw [callFn_at (show pr.fns 45 = some c45 from rfl) (by simp)]
    simp only [go_sem, c45, I23, I94_3, planE, reduceIte, Nat.reduceEqDiff, Nat.reduceAdd, Nat.reduceSub, Nat.reduceLT, Nat.reduceLeDiff, Nat.reduceMul, Int.reduceLT, Int.reduceLE, Int.reduceEq, Int.reduceNe, Int.reduceAdd, Int.reduceSub, Int.reduceNeg, Int.reduceMul]
    exact ⟨_, rfl⟩
  obtain ⟨hh, this⟩ := this
  exact callIso_of rfl this rfl rfl
theorem I50 (L S A : Int) : callIso pr (X pr) 50 [.agg [.int .i64 L, .int .i64 S, .int .i64 A]] = some (.int .i64 (planE L S A), false) := by
  have : ∃ hh, callFn pr (X pr) 50 [.agg [.int .i64 L, .int .i64 S, .int .i64 A]] [] = some (.int .i64 (planE L S A), false, hh) := by
    rw [callFn_at (show pr.fns 50 = some c50 from rfl) (by simp)]
    simp only [go_sem, c50, I108, I88, I87_3, planE, reduceIte, Nat.reduceEqDiff, Nat.reduceAdd, Nat.reduceSub, Nat.reduceLT, Nat.reduceLeDiff, Nat.reduceMul, Int.reduceLT, Int.reduceLE, Int.reduceEq, Int.reduceNe, Int.reduceAdd, Int.reduceSub, Int.reduceNeg, Int.reduceMul]
    exact ⟨_, rfl⟩
  obtain ⟨hh, this⟩ := this
  exact callIso_of rfl this rfl rfl
def defE (L g b : Int) : Int := firstNZ [checkRange g 0 L, checkRange b 0 L, whenE (decide (b ≤ g)) 11]
theorem I46 (L g b : Int) : callIso pr (X pr) 46 [.int .i64 L, .int .i64 g, .int .i64 b] = some (.int .i64 (defE L g b), false) := by
  have : callFn pr (X pr) 46 [.int .i64 L, .int .i64 g, .int .i64 b] [] = some (.int .i64 (defE L g b), false, []) := by
    rw [callFn_at (show pr.fns 46 = some c46 from rfl) (by simp)]
    simp only [go_sem, c46, I23, I96, I94_3, defE, reduceIte, Nat.reduceEqDiff, Nat.reduceAdd, Nat.reduceSub, Nat.reduceLT, Nat.reduceLeDiff, Nat.reduceMul, Int.reduceLT, Int.reduceLE, Int.reduceEq, Int.reduceNe, Int.reduceAdd, Int.reduceSub, Int.reduceNeg, Int.reduceMul]
  exact callIso_of rfl this rfl rfl
theorem I105 (L g b : Int) : callIso pr (X pr) 105 [.int .i64 L, .int .i64 g, .int .i64 b] = some (.int .i64 (defE L g b), false) := by
  have : callFn pr (X pr) 105 [.int .i64 L, .int .i64 g, .int .i64 b] [] = some (.int .i64 (defE L g b), false, []) := by
    rw [callFn_at (show pr.fns 105 = some c105 from rfl) (by simp)]
    simp only [go_sem, c105, I88, I89, I87_3, defE, reduceIte, Nat.reduceEqDiff, Nat.reduceAdd, Nat.reduceSub, Nat.reduceLT, Nat.reduceLeDiff, Nat.reduceMul, Int.reduceLT, Int.reduceLE, Int.reduceEq, Int.reduceNe, Int.reduceAdd, Int.reduceSub, Int.reduceNeg, Int.reduceMul]
  exact callIso_of rfl this rfl rfl

end Go.Z
