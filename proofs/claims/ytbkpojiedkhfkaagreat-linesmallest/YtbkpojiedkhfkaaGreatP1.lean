/-
  Plans: numbers of ways, and the checks: the runs.
-/
import Derived.Test.YtbkpojiedkhfkaaGreatL16
import Derived.Test.YtbkpojiedkhfkaaGreatAbsH
import Derived.KernelRfl
set_option linter.unusedVariables false
set_option linter.unusedSimpArgs false
set_option maxRecDepth 100000
set_option linter.unusedSimpArgs false
namespace Go.Z
open Go Go.Abs
theorem range_at {n i t : Nat} (h : (List.range n)[i]? = some t) : t = i ∧ i < n := by
  obtain ⟨h1, h2⟩ := List.getElem?_eq_some_iff.1 h
  rw [List.length_range] at h1
  exact ⟨by simpa using h2.symm, h1⟩
def stepBin (n : Int) (out : Int) (i : Nat) : Int := wrapF .i64 ((wrapF .i64 (out * wrapF .i64 (n - (i : Int)))).tdiv ((i + 1 : Nat) : Int))
def loopBin (n : Int) (k : Nat) : Int := (List.range k).foldl (stepBin n) 1
def binI (n k : Int) : Int := if k < 0 then 0 else if n < k then 0 else loopBin n k.toNat
theorem l107 (n : Int) (k : Nat) (hk : k ≤ 1073741824) (h : Heap) : X pr (.loop c107_0) ⟨[(0, .int .i64 n, false), (1, .int .i64 (k : Int), false), (5, .int .i64 1, false), (6, .int .i64 0, false)], h⟩ =
    some (.exit 0, ⟨[(0, .int .i64 n, false), (1, .int .i64 (k : Int), false), (5, .int .i64 (loopBin n k), false), (6, .int .i64 (k : Int), false), (16, .bool false, false)], h⟩) := by
  have hlen : (List.range k).length = k := List.length_range
  have := X_loop_list (p := pr) (c := c107_0) (δ := Empty) (List.range k) (fun i (s : Int) => ⟨[(0, .int .i64 n, false), (1, .int .i64 (k : Int), false), (5, .int .i64 s, false), (6, .int .i64 (i : Int), false)], h⟩)
    (fun _ s t => .inl (stepBin n s t)) (fun s => (.exit 0, ⟨[(0, .int .i64 n, false), (1, .int .i64 (k : Int), false), (5, .int .i64 s, false), (6, .int .i64 (k : Int), false), (16, .bool false, false)], h⟩))
    (fun d => nomatch d) (fun _ _ => True) 1 (fun _ h => by cases h) (fun d => nomatch d) ?_ ?_ trivial
  · rw [Int.natCast_zero, runL_fold (stepBin n)] at this
    exact this
  · intro s _
    have hlt : ¬ ((k : Int) < (k : Int)) := by omega
    simp only [hlen]
    simp only [go_sem, c107_0, hlt, reduceIte, Nat.reduceEqDiff, Nat.reduceAdd, Nat.reduceSub, Nat.reduceLT, Nat.reduceLeDiff, Nat.reduceMul, Int.reduceLT, Int.reduceLE, Int.reduceEq, Int.reduceNe, Int.reduceAdd, Int.reduceSub, Int.reduceNeg, Int.reduceMul]
  · intro i s t hx hi _
    obtain ⟨rfl, hi'⟩ := range_at hx
    have hlt : (t : Int) < (k : Int) := by omega
    have hw := wrap_succ hi' (by omega)
    have hne : ((t + 1 : Nat) : Int) ≠ 0 := by omega
    refine stepL_in rfl trivial ?_ (gc_same (Nat.le_refl _))
    simp only [go_sem, c107_0, hlt, hw, b_quo hne, stepBin, reduceIte, Nat.reduceEqDiff, Nat.reduceAdd, Nat.reduceSub, Nat.reduceLT, Nat.reduceLeDiff, Nat.reduceMul, Int.reduceLT, Int.reduceLE, Int.reduceEq, Int.reduceNe, Int.reduceAdd, Int.reduceSub, Int.reduceNeg, Int.reduceMul]
theorem I107 (n k : Int) (hk : k ≤ 1073741824) : callIso pr (X pr) 107 [.int .i64 n, .int .i64 k] = some (.int .i64 (binI n k), false) := by
  have : callFn pr (X pr) 107 [.int .i64 n, .int .i64 k] [] = some (.int .i64 (binI n k), false, []) := by
    rw [callFn_at (show pr.fns 107 = some c107 from rfl) (by simp)]
    by_cases h1 : k < 0
    · have hb : binI n k = 0 := if_pos h1
      rw [hb]
      simp only [go_sem, c107, h1, reduceIte, Nat.reduceEqDiff, Nat.reduceAdd, Nat.reduceSub, Nat.reduceLT, Nat.reduceLeDiff, Nat.reduceMul, Int.reduceLT, Int.reduceLE, Int.reduceEq, Int.reduceNe, Int.reduceAdd, Int.reduceSub, Int.reduceNeg, Int.reduceMul]
    · by_cases h2 : n < k
      · have hb : binI n k = 0 := by unfold binI; rw [if_neg h1, if_pos h2]
        rw [hb]
        simp only [go_sem, c107, h1, h2, reduceIte, Nat.reduceEqDiff, Nat.reduceAdd, Nat.reduceSub, Nat.reduceLT, Nat.reduceLeDiff, Nat.reduceMul, Int.reduceLT, Int.reduceLE, Int.reduceEq, Int.reduceNe, Int.reduceAdd, Int.reduceSub, Int.reduceNeg, Int.reduceMul]
      · have hb : binI n k = loopBin n k.toNat := by unfold binI; rw [if_neg h1, if_neg h2]
        have hl := l107 n k.toNat (by omega) []
        have hkk : ((k.toNat : Nat) : Int) = k := by omega
        rw [hkk] at hl
        rw [hb]
        simp only [go_sem, c107, h1, h2, hl, reduceIte, Nat.reduceEqDiff, Nat.reduceAdd, Nat.reduceSub, Nat.reduceLT, Nat.reduceLeDiff, Nat.reduceMul, Int.reduceLT, Int.reduceLE, Int.reduceEq, Int.reduceNe, Int.reduceAdd, Int.reduceSub, Int.reduceNeg, Int.reduceMul]
  exact callIso_of rfl this rfl rfl
theorem l137 (n : Int) (k : Nat) (hk : k ≤ 1073741824) (h : Heap) : X pr (.loop c137_0) ⟨[(0, .int .i64 n, false), (5, .int .i64 1, false), (14, .int .i64 (k : Int), false), (15, .int .i64 0, false)], h⟩ =
    some (.exit 0, ⟨[(0, .int .i64 n, false), (5, .int .i64 (loopBin n k), false), (14, .int .i64 (k : Int), false), (15, .int .i64 (k : Int), false), (16, .bool false, false)], h⟩) := by
  have hlen : (List.range k).length = k := List.length_range
  have := X_loop_list (p := pr) (c := c137_0) (δ := Empty) (List.range k) (fun i (s : Int) => ⟨[(0, .int .i64 n, false), (5, .int .i64 s, false), (14, .int .i64 (k : Int), false), (15, .int .i64 (i : Int), false)], h⟩)
    (fun _ s t => .inl (stepBin n s t)) (fun s => (.exit 0, ⟨[(0, .int .i64 n, false), (5, .int .i64 s, false), (14, .int .i64 (k : Int), false), (15, .int .i64 (k : Int), false), (16, .bool false, false)], h⟩))
    (fun d => nomatch d) (fun _ _ => True) 1 (fun _ h => by cases h) (fun d => nomatch d) ?_ ?_ trivial
  · rw [Int.natCast_zero, runL_fold (stepBin n)] at this
    exact this
  · intro s _
    have hlt : ¬ ((k : Int) < (k : Int)) := by omega
    simp only [hlen]
    simp only [go_sem, c137_0, hlt, reduceIte, Nat.reduceEqDiff, Nat.reduceAdd, Nat.reduceSub, Nat.reduceLT, Nat.reduceLeDiff, Nat.reduceMul, Int.reduceLT, Int.reduceLE, Int.reduceEq, Int.reduceNe, Int.reduceAdd, Int.reduceSub, Int.reduceNeg, Int.reduceMul]
  · intro i s t hx hi _
    obtain ⟨rfl, hi'⟩ := range_at hx
    have hlt : (t : Int) < (k : Int) := by omega
    have hw := wrap_succ hi' (by omega)
    have hne : ((t + 1 : Nat) : Int) ≠ 0 := by omega
    refine stepL_in rfl trivial ?_ (gc_same (Nat.le_refl _))
    simp only [go_sem, c137_0, hlt, hw, b_quo hne, stepBin, reduceIte, Nat.reduceEqDiff, Nat.reduceAdd, Nat.reduceSub, Nat.reduceLT, Nat.reduceLeDiff, Nat.reduceMul, Int.reduceLT, Int.reduceLE, Int.reduceEq, Int.reduceNe, Int.reduceAdd, Int.reduceSub, Int.reduceNeg, Int.reduceMul]
theorem I137 (n k : Int) (hk : k ≤ 1073741824) : callIso pr (X pr) 137 [.int .i64 n, .int .i64 k] = some (.int .i64 (binI n k), false) := by
  have : callFn pr (X pr) 137 [.int .i64 n, .int .i64 k] [] = some (.int .i64 (binI n k), false, []) := by
    rw [callFn_at (show pr.fns 137 = some c137 from rfl) (by simp)]
    by_cases h1 : k < 0
    · have hb : binI n k = 0 := if_pos h1
      rw [hb]
      simp only [go_sem, c137, h1, reduceIte, Nat.reduceEqDiff, Nat.reduceAdd, Nat.reduceSub, Nat.reduceLT, Nat.reduceLeDiff, Nat.reduceMul, Int.reduceLT, Int.reduceLE, Int.reduceEq, Int.reduceNe, Int.reduceAdd, Int.reduceSub, Int.reduceNeg, Int.reduceMul]
    · by_cases h2 : n < k
      · have hb : binI n k = 0 := by unfold binI; rw [if_neg h1, if_pos h2]
        rw [hb]
        simp only [go_sem, c137, h1, h2, reduceIte, Nat.reduceEqDiff, Nat.reduceAdd, Nat.reduceSub, Nat.reduceLT, Nat.reduceLeDiff, Nat.reduceMul, Int.reduceLT, Int.reduceLE, Int.reduceEq, Int.reduceNe, Int.reduceAdd, Int.reduceSub, Int.reduceNeg, Int.reduceMul]
      · have hb : binI n k = loopBin n k.toNat := by unfold binI; rw [if_neg h1, if_neg h2]
        have hl := l137 n k.toNat (by omega) []
        have hkk : ((k.toNat : Nat) : Int) = k := by omega
        rw [hkk] at hl
        rw [hb]
        simp only [go_sem, c137, h1, h2, hl, reduceIte, Nat.reduceEqDiff, Nat.reduceAdd, Nat.reduceSub, Nat.reduceLT, Nat.reduceLeDiff, Nat.reduceMul, Int.reduceLT, Int.reduceLE, Int.reduceEq, Int.reduceNe, Int.reduceAdd, Int.reduceSub, Int.reduceNeg, Int.reduceMul]
  exact callIso_of rfl this rfl rfl
def planE (L S A : Int) : Int := firstNZ [checkRange L 1 30, checkRange S 1 L, checkRange A 0 (wrapF .i64 (S - 1))]
theorem I108 (n : Int) : callIso pr (X pr) 108 [.int .i64 n] = some (.int .i64 (checkRange n 1 30), false) := by
  have : callFn pr (X pr) 108 [.int .i64 n] [] = some (.int .i64 (checkRange n 1 30), false, []) := by
    rw [callFn_at (show pr.fns 108 = some c108 from rfl) (by simp)]
    simp only [go_sem, c108, I88, reduceIte, Nat.reduceEqDiff, Nat.reduceAdd, Nat.reduceSub, Nat.reduceLT, Nat.reduceLeDiff, Nat.reduceMul, Int.reduceLT, Int.reduceLE, Int.reduceEq, Int.reduceNe, Int.reduceAdd, Int.reduceSub, Int.reduceNeg, Int.reduceMul]
  exact callIso_of rfl this rfl rfl
theorem I45 (L S A : Int) : callIso pr (X pr) 45 [.agg [.int .i64 L, .int .i64 S, .int .i64 A]] = some (.int .i64 (planE L S A), false) := by
  have : ∃ hh, callFn pr (X pr) 45 [.agg [.int .i64 L, .int .i64 S, .int .i64 A]] [] = some (.int .i64 (planE L S A), false, hh) := by
    rw [callFn_at (show pr.fns 45 = some c45 from rfl) (by simp)]
    simp only [go_sem, c45, I23, I94_3, planE, reduceIte, Nat.reduceEqDiff, Nat.reduceAdd, Nat.reduceSub, Nat.reduceLT, Nat.reduceLeDiff, Nat.reduceMul, Int.reduceLT, Int.reduceLE, Int.reduceEq, Int.reduceNe, Int.reduceAdd, Int.reduceSub, Int.reduceNeg, Int.reduceMul]
    exact ⟨_, rfl⟩
  obtain ⟨hh, this⟩ := this
  exact callIso_of rfl this rfl rfl
theorem I50 (L S A : Int) : callIso pr (X pr) 50 [.agg [.int .i64 L, .int .i64 S, .int .i64 A]] = some (.int .i64 (planE L S A), false) := by
  have : ∃ hh, callFn pr (X pr) 50 [.agg [.int .i64 L, .int .i64 S, .int .i64 A]] [] = some (.int .i64 (planE L S A), false, hh) := by
    rw [callFn_at (show pr.fns 50 = some c50 from rfl) (by simp)]
    simp only [go_sem, c50, I108, I88, I87_3, planE, reduceIte, Nat.reduceEqDiff, Nat.reduceAdd, Nat.reduceSub, Nat.reduceLT, Nat.reduceLeDiff, Nat.reduceMul, Int.reduceLT, Int.reduceLE, Int.reduceEq, Int.reduceNe, Int.reduceAdd, Int.reduceSub, Int.reduceNeg, Int.reduceMul]
    exact ⟨_, rfl⟩
  obtain ⟨hh, this⟩ := this
  exact callIso_of rfl this rfl rfl
def defE (L g b : Int) : Int := firstNZ [checkRange g 0 L, checkRange b 0 L, whenE (decide (b ≤ g)) 11]
theorem I46 (L g b : Int) : callIso pr (X pr) 46 [.int .i64 L, .int .i64 g, .int .i64 b] = some (.int .i64 (defE L g b), false) := by
  have : callFn pr (X pr) 46 [.int .i64 L, .int .i64 g, .int .i64 b] [] = some (.int .i64 (defE L g b), false, []) := by
    rw [callFn_at (show pr.fns 46 = some c46 from rfl) (by simp)]
    simp only [go_sem, c46, I23, I96, I94_3, defE, reduceIte, Nat.reduceEqDiff, Nat.reduceAdd, Nat.reduceSub, Nat.reduceLT, Nat.reduceLeDiff, Nat.reduceMul, Int.reduceLT, Int.reduceLE, Int.reduceEq, Int.reduceNe, Int.reduceAdd, Int.reduceSub, Int.reduceNeg, Int.reduceMul]
  exact callIso_of rfl this rfl rfl
theorem I105 (L g b : Int) : callIso pr (X pr) 105 [.int .i64 L, .int .i64 g, .int .i64 b] = some (.int .i64 (defE L g b), false) := by
  have : callFn pr (X pr) 105 [.int .i64 L, .int .i64 g, .int .i64 b] [] = some (.int .i64 (defE L g b), false, []) := by
    rw [callFn_at (show pr.fns 105 = some c105 from rfl) (by simp)]
    simp only [go_sem, c105, I88, I89, I87_3, defE, reduceIte, Nat.reduceEqDiff, Nat.reduceAdd, Nat.reduceSub, Nat.reduceLT, Nat.reduceLeDiff, Nat.reduceMul, Int.reduceLT, Int.reduceLE, Int.reduceEq, Int.reduceNe, Int.reduceAdd, Int.reduceSub, Int.reduceNeg, Int.reduceMul]
  exact callIso_of rfl this rfl rfl
end Go.Z
/-
  Plans: acceptance: the runs.
-/
set_option maxRecDepth 100000
set_option linter.unusedSimpArgs false
namespace Go.Z
open Go Go.Abs
abbrev pBox (L S A : Int) : ABox := .cells [(.int .i64 L, false), (.int .i64 S, false), (.int .i64 A, false)]
def accStep (L S d s : Int) (k : Nat) : Int := wrapF .i64 (s + wrapF .i64 (binI d (k : Int) * binI (wrapF .i64 (L - d)) (wrapF .i64 (S - (k : Int)))))
def accI (L S d : Int) (a : Nat) : Int := (List.range (a + 1)).foldl (accStep L S d) 0
theorem l103 (L S d : Int) (a : Nat) (ha : a ≤ 1000) (hS : 0 ≤ S) (hS2 : S ≤ 1000) :
    X pr (.loop c103_0) ⟨[(1, .int .i64 d, false), (2, .ptr 0 0, false), (5, .int .i64 0, false), (9, .int .i64 ((a + 1 : Nat) : Int), false), (10, .int .i64 0, false)], [pBox L S a]⟩ =
      some (.exit 0, ⟨[(1, .int .i64 d, false), (2, .ptr 0 0, false), (5, .int .i64 (accI L S d a), false), (9, .int .i64 ((a + 1 : Nat) : Int), false), (10, .int .i64 ((a + 1 : Nat) : Int), false), (11, .bool false, false)], [pBox L S a]⟩) := by
  have hlen : (List.range (a + 1)).length = a + 1 := List.length_range
  have := X_loop_list (p := pr) (c := c103_0) (δ := Empty) (List.range (a + 1)) (fun i (s : Int) => ⟨[(1, .int .i64 d, false), (2, .ptr 0 0, false), (5, .int .i64 s, false), (9, .int .i64 ((a + 1 : Nat) : Int), false), (10, .int .i64 (i : Int), false)], [pBox L S a]⟩)
    (fun _ s t => .inl (accStep L S d s t)) (fun s => (.exit 0, ⟨[(1, .int .i64 d, false), (2, .ptr 0 0, false), (5, .int .i64 s, false), (9, .int .i64 ((a + 1 : Nat) : Int), false), (10, .int .i64 ((a + 1 : Nat) : Int), false), (11, .bool false, false)], [pBox L S a]⟩))
    (fun d => nomatch d) (fun _ _ => True) 0 (fun _ h => by cases h) (fun d => nomatch d) ?_ ?_ trivial
  · rw [Int.natCast_zero, runL_fold (accStep L S d)] at this
    exact this
  · intro s _
    have hlt : ¬ (((a + 1 : Nat) : Int) < ((a + 1 : Nat) : Int)) := by omega
    simp only [hlen]
    simp only [go_sem, c103_0, hlt, reduceIte, Nat.reduceEqDiff, Nat.reduceAdd, Nat.reduceSub, Nat.reduceLT, Nat.reduceLeDiff, Nat.reduceMul, Int.reduceLT, Int.reduceLE, Int.reduceEq, Int.reduceNe, Int.reduceAdd, Int.reduceSub, Int.reduceNeg, Int.reduceMul]
  · intro i s t hx hi _
    obtain ⟨rfl, hi'⟩ := range_at hx
    have hlt : (t : Int) < ((a + 1 : Nat) : Int) := by omega
    have hw := wrap_succ hi' (by omega)
    have h1 := I137 d (t : Int) (by omega)
    have h2 := I137 (wrapF .i64 (L - d)) (wrapF .i64 (S - (t : Int))) (by rw [wrapF_i64 (by omega) (by omega)]; omega)
    refine stepL_in rfl trivial ?_ (gc_same (Nat.le_refl _))
    simp only [go_sem, c103_0, pBox, hlt, hw, h1, h2, accStep, reduceIte, Nat.reduceEqDiff, Nat.reduceAdd, Nat.reduceSub, Nat.reduceLT, Nat.reduceLeDiff, Nat.reduceMul, Int.reduceLT, Int.reduceLE, Int.reduceEq, Int.reduceNe, Int.reduceAdd, Int.reduceSub, Int.reduceNeg, Int.reduceMul]
theorem I103 (L S d : Int) (a : Nat) (ha : a ≤ 1000) (hS : 0 ≤ S) (hS2 : S ≤ 1000) : callIso pr (X pr) 103 [.agg [.int .i64 L, .int .i64 S, .int .i64 (a : Int)], .int .i64 d] = some (.int .i64 (accI L S d a), false) := by
  have hl := l103 L S d a ha hS hS2
  simp only [pBox] at hl
  have hw := wrap_succ (show a < a + 1 by omega) (by omega)
  have : ∃ hh, callFn pr (X pr) 103 [.agg [.int .i64 L, .int .i64 S, .int .i64 (a : Int)], .int .i64 d] [] = some (.int .i64 (accI L S d a), false, hh) := by
    rw [callFn_at (show pr.fns 103 = some c103 from rfl) (by simp)]
    simp only [go_sem, c103, hw, hl, reduceIte, Nat.reduceEqDiff, Nat.reduceAdd, Nat.reduceSub, Nat.reduceLT, Nat.reduceLeDiff, Nat.reduceMul, Int.reduceLT, Int.reduceLE, Int.reduceEq, Int.reduceNe, Int.reduceAdd, Int.reduceSub, Int.reduceNeg, Int.reduceMul]
    exact ⟨_, rfl⟩
  obtain ⟨hh, this⟩ := this
  exact callIso_of rfl this rfl rfl
theorem I104 (L S A : Int) (hS : S ≤ 1000) : callIso pr (X pr) 104 [.agg [.int .i64 L, .int .i64 S, .int .i64 A]] = some (.int .i64 (binI L S), false) := by
  have : ∃ hh, callFn pr (X pr) 104 [.agg [.int .i64 L, .int .i64 S, .int .i64 A]] [] = some (.int .i64 (binI L S), false, hh) := by
    rw [callFn_at (show pr.fns 104 = some c104 from rfl) (by simp)]
    simp only [go_sem, c104, I137 L S (by omega), reduceIte, Nat.reduceEqDiff, Nat.reduceAdd, Nat.reduceSub, Nat.reduceLT, Nat.reduceLeDiff, Nat.reduceMul, Int.reduceLT, Int.reduceLE, Int.reduceEq, Int.reduceNe, Int.reduceAdd, Int.reduceSub, Int.reduceNeg, Int.reduceMul]
    exact ⟨_, rfl⟩
  obtain ⟨hh, this⟩ := this
  exact callIso_of rfl this rfl rfl
theorem l47 (L S d : Int) (a : Nat) (b1 : ABox) (ha : a ≤ 1000) (hS : 0 ≤ S) (hS2 : S ≤ 1000) :
    X pr (.loop c47_0) ⟨[(1, .int .i64 d, false), (2, .ptr 0 0, false), (4, .ptr 1 0, false), (5, .int .i64 0, false), (6, .int .i64 0, false)], [pBox L S a, b1]⟩ =
      some (.exit 0, ⟨[(1, .int .i64 d, false), (2, .ptr 0 0, false), (4, .ptr 1 0, false), (5, .int .i64 (accI L S d a), false), (6, .int .i64 ((a + 1 : Nat) : Int), false), (10, .bool false, false)], [pBox L S a, b1]⟩) := by
  have hlen : (List.range (a + 1)).length = a + 1 := List.length_range
  have := X_loop_list (p := pr) (c := c47_0) (δ := Empty) (List.range (a + 1)) (fun i (s : Int) => ⟨[(1, .int .i64 d, false), (2, .ptr 0 0, false), (4, .ptr 1 0, false), (5, .int .i64 s, false), (6, .int .i64 (i : Int), false)], [pBox L S a, b1]⟩)
    (fun _ s t => .inl (accStep L S d s t)) (fun s => (.exit 0, ⟨[(1, .int .i64 d, false), (2, .ptr 0 0, false), (4, .ptr 1 0, false), (5, .int .i64 s, false), (6, .int .i64 ((a + 1 : Nat) : Int), false), (10, .bool false, false)], [pBox L S a, b1]⟩))
    (fun d => nomatch d) (fun _ _ => True) 0 (fun _ h => by cases h) (fun d => nomatch d) ?_ ?_ trivial
  · rw [Int.natCast_zero, runL_fold (accStep L S d)] at this
    exact this
  · intro s _
    have hlt : ¬ (((a + 1 : Nat) : Int) ≤ (a : Int)) := by omega
    simp only [hlen]
    simp only [go_sem, c47_0, pBox, hlt, reduceIte, Nat.reduceEqDiff, Nat.reduceAdd, Nat.reduceSub, Nat.reduceLT, Nat.reduceLeDiff, Nat.reduceMul, Int.reduceLT, Int.reduceLE, Int.reduceEq, Int.reduceNe, Int.reduceAdd, Int.reduceSub, Int.reduceNeg, Int.reduceMul]
  · intro i s t hx hi _
    obtain ⟨rfl, hi'⟩ := range_at hx
    have hlt : (t : Int) ≤ (a : Int) := by omega
    have hw := wrap_succ hi' (by omega)
    have h1 := I107 d (t : Int) (by omega)
    have h2 := I107 (wrapF .i64 (L - d)) (wrapF .i64 (S - (t : Int))) (by rw [wrapF_i64 (by omega) (by omega)]; omega)
    refine stepL_in rfl trivial ?_ (gc_same (Nat.le_refl _))
    simp only [go_sem, c47_0, pBox, hlt, hw, h1, h2, accStep, reduceIte, Nat.reduceEqDiff, Nat.reduceAdd, Nat.reduceSub, Nat.reduceLT, Nat.reduceLeDiff, Nat.reduceMul, Int.reduceLT, Int.reduceLE, Int.reduceEq, Int.reduceNe, Int.reduceAdd, Int.reduceSub, Int.reduceNeg, Int.reduceMul]
end Go.Z
/-
  Binomials: that the numbers of ways are Pascal's, and Vandermonde's sum.
-/
set_option maxRecDepth 100000
set_option linter.unusedSimpArgs false
namespace Go.Z
open Go Go.Abs
def ch : Nat → Nat → Nat
  | _, 0 => 1
  | 0, _ + 1 => 0
  | n + 1, k + 1 => ch n k + ch n (k + 1)
def conv (f g : Nat → Nat) : Nat → Nat
  | 0 => f 0 * g 0
  | s + 1 => f 0 * g (s + 1) + conv (fun k => f (k + 1)) g s
theorem conv_add (g : Nat → Nat) : ∀ (s : Nat) (f f' : Nat → Nat), conv (fun k => f k + f' k) g s = conv f g s + conv f' g s
  | 0, f, f' => by simp only [conv, Nat.add_mul]
  | s + 1, f, f' => by
    simp only [conv, Nat.add_mul]
    rw [conv_add g s (fun k => f (k + 1)) (fun k => f' (k + 1))]
    omega
theorem conv_zero (g : Nat → Nat) : ∀ (s : Nat), conv (fun _ => 0) g s = 0
  | 0 => by simp [conv]
  | s + 1 => by simp only [conv]; rw [conv_zero g s]; simp
theorem ch_zero (n : Nat) : ch n 0 = 1 := by cases n <;> rfl
theorem vandermonde (m : Nat) : ∀ (d s : Nat), conv (ch d) (ch m) s = ch (d + m) s
  | 0, s => by
    rw [Nat.zero_add]
    cases s with
    | zero => simp [conv, ch_zero]
    | succ s =>
      simp only [conv]
      rw [show (fun k => ch 0 (k + 1)) = fun _ => 0 from by funext k; rfl, conv_zero]
      simp [ch_zero]
  | d + 1, 0 => by simp [conv, ch_zero]
  | d + 1, s + 1 => by
    have h1 := vandermonde m d s
    have h2 := vandermonde m d (s + 1)
    simp only [conv, ch_zero, Nat.one_mul] at h2 ⊢
    rw [show (fun k => ch (d + 1) (k + 1)) = fun k => ch d k + ch d (k + 1) from by funext k; rfl, conv_add]
    rw [show d + 1 + m = (d + m) + 1 by omega]
    show _ = ch (d + m) s + ch (d + m) (s + 1)
    rw [h1] at *
    omega
def psum (f : Nat → Nat) : Nat → Nat
  | 0 => 0
  | n + 1 => psum f n + f n
theorem psum_mono {f : Nat → Nat} {a b : Nat} (h : a ≤ b) : psum f a ≤ psum f b := by
  induction b with
  | zero => rw [Nat.le_zero.1 h]; exact Nat.le_refl _
  | succ b ih =>
    by_cases hb : a ≤ b
    · simp only [psum]; have := ih hb; omega
    · rw [show a = b + 1 by omega]; exact Nat.le_refl _
theorem psum_front (f : Nat → Nat) : ∀ n, psum f (n + 1) = f 0 + psum (fun k => f (k + 1)) n
  | 0 => by simp [psum]
  | n + 1 => by
    rw [psum, psum_front f n]
    simp only [psum]
    omega
theorem psum_conv (g : Nat → Nat) : ∀ (s : Nat) (f : Nat → Nat), psum (fun k => f k * g (s - k)) (s + 1) = conv f g s
  | 0, f => by simp [psum, conv]
  | s + 1, f => by
    rw [psum_front]
    simp only [conv]
    rw [← psum_conv g s (fun k => f (k + 1))]
    congr 1
    congr 1
    funext k
    rw [show s + 1 - (k + 1) = s - k by omega]
def nextRow : List Nat → List Nat
  | [] => []
  | [a] => [a]
  | a :: b :: l => (a + b) :: nextRow (b :: l)
def row : Nat → List Nat
  | 0 => [1]
  | n + 1 => 1 :: nextRow (row n)
theorem nextRow_at : ∀ (l : List Nat) (k : Nat), (nextRow l).getD k 0 = l.getD k 0 + l.getD (k + 1) 0
  | [], k => by simp [nextRow]
  | [a], k => by cases k <;> simp [nextRow]
  | a :: b :: l, 0 => by simp [nextRow]
  | a :: b :: l, k + 1 => by
    have := nextRow_at (b :: l) k
    simpa [nextRow] using this
theorem row_at : ∀ (n k : Nat), (row n).getD k 0 = ch n k
  | 0, 0 => rfl
  | 0, k + 1 => by simp [row, ch]
  | n + 1, 0 => by simp [row, ch]
  | n + 1, k + 1 => by
    have h1 := row_at n k
    have h2 := row_at n (k + 1)
    show (1 :: nextRow (row n)).getD (k + 1) 0 = ch n k + ch n (k + 1)
    rw [← h1, ← h2, ← nextRow_at]
    simp
def binOk : Bool := (List.range 31).all fun n => (List.range 31).all fun k => eqInt (binI (n : Int) (k : Int)) (((row n).getD k 0 : Nat) : Int)
theorem binOk_true : binOk = true := by kernel_rfl
theorem binI_ch {n k : Nat} (hn : n ≤ 30) (hk : k ≤ 30) : binI (n : Int) (k : Int) = (ch n k : Int) := by
  have h := binOk_true
  unfold binOk at h
  have h1 := List.all_eq_true.1 h n (List.mem_range.2 (by omega))
  have h2 := List.all_eq_true.1 h1 k (List.mem_range.2 (by omega))
  rw [eqInt_sound h2, row_at]
end Go.Z
