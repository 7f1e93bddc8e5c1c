/-
  Plans: acceptance: the runs.
-/
import Derived.Test.YtbkpojiedkhfkaaGreatP1

set_option linter.unusedVariables false
set_option linter.unusedSimpArgs false

set_option maxRecDepth 100000
set_option linter.unusedSimpArgs false
namespace Go.Z
open Go Go.Abs

abbrev pBox (L S A : Int) : ABox := .cells [(.int .i64 L, false), (.int .i64 S, false), (.int .i64 A, false)]
def accStep (L S d s : Int) (k : Nat) : Int := wrapF .i64 (s + wrapF .i64 (binI d (k : Int) * binI (wrapF .i64 (L - d)) (wrapF .i64 (S - (k : Int)))))
def accI (L S d : Int) (a : Nat) : Int := (List.range (a + 1)).foldl (accStep L S d) 0

theorem l103 (L S d : Int) (a : Nat) (ha : a ≤ 1000) (hS : 0 ≤ S) (hS2 : S ≤ 1000) :
    X pr (.loop c103_0) ⟨[(1, .int .i64 d, false), (2, .ptr 0 0, false), (5, .int .i64 0, false), (9, .int .i64 ((a + 1 : Nat) : Int), false), (10, .int .i64 0, false)], [pBox L S a]⟩ =
      some (.exit 0, ⟨[(1, .int .i64 d, false), (2, .ptr 0 0, false), (5, .int .i64 (accI L S d a), false), (9, .int .i64 ((a + 1 : Nat) : Int), false), (10, .int .i64 ((a + 1 : Nat) : Int), false), (11, .bool false, false)], [pBox L S a]⟩) := by
  have hlen : (List.range (a + 1)).length = a + 1 := List.length_range
  have := X_loop_list (p := pr) (c := c103_0) (δ := Empty) (List.range (a + 1)) (fun i (s : Int) => ⟨[(1, .int .i64 d, false), (2, .ptr 0 0, false), (5, .int .i64 s, false), (9, .int .i64 ((a + 1 : Nat) : Int), false), (10, .int .i64 (i : Int), false)], [pBox L S a]⟩)
    (fun _ s t => .inl (accStep L S d s t)) (fun s => (.exit 0, ⟨[(1, .int .i64 d, false), (2, .ptr 0 0, false), (5, .int .i64 s, false), (9, .int .i64 ((a + 1 : Nat) : Int), false), (10, .int .i64 ((a + 1 : Nat) : Int), false), (11, .bool false, false)], [pBox L S a]⟩))
    (fun d => nomatch d) (fun _ _ => True) 0 (fun _ h => by cases h) (fun d => nomatch d) ?_ ?_ trivial
  · rw [Int.natCast_zero, runL_fold (accStep L S d)] at this
    exact this
  · intro s _
    have hlt : ¬ (((a + 1 : Nat) : Int) < ((a + 1 : Nat) : Int)) := by omega
    simp only [hlen]
    simp only [go_sem, c103_0, hlt, reduceIte, Nat.reduceEqDiff, Nat.reduceAdd, Nat.reduceSub, Nat.reduceLT, Nat.reduceLeDiff, Nat.reduceMul, Int.reduceLT, Int.reduceLE, Int.reduceEq, Int.reduceNe, Int.reduceAdd, Int.reduceSub, Int.reduceNeg, Int.reduceMul]
  · intro i s t hx hi _
    obtain ⟨rfl, hi'⟩ := range_at hx
    have hlt : (t : Int) < ((a + 1 : Nat) : Int) := by omega
    have hw := wrap_succ hi' (by omega)
    have h1 := I137 d (t : Int) (by omega)
    have h2 := I137 (wrapF .i64 (L - d)) (wrapF .i64 (S - (t : Int))) (by rw [wrapF_i64 (by omega) (by omega)]; omega)
    refine stepL_in rfl trivial ?_ (gc_same (Nat.le_refl _))
    simp only [go_sem, c103_0, pBox, hlt, hw, h1, h2, accStep, reduceIte, Nat.reduceEqDiff, Nat.reduceAdd, Nat.reduceSub, Nat.reduceLT, Nat.reduceLeDiff, Nat.reduceMul, Int.reduceLT, Int.reduceLE, Int.reduceEq, Int.reduceNe, Int.reduceAdd, Int.reduceSub, Int.reduceNeg, Int.reduceMul]
theorem I103 (L S d : Int) (a : Nat) (ha : a ≤ 1000) (hS : 0 ≤ S) (hS2 : S ≤ 1000) : callIso pr (X pr) 103 [.agg [.int .i64 L, .int .i64 S, .int .i64 (a : Int)], .int .i64 d] = some (.int .i64 (accI L S d a), false) := by
  have hl := l103 L S d a ha hS hS2
  simp only [pBox] at hl
  have hw := wrap_succ (show a < a + 1 by omega) (by omega)
  have : ∃ hh, callFn pr (X pr) 103 [.agg [.int .i64 L, .int .i64 S, .int .i64 (a : Int)], .int .i64 d] [] = some (.int .i64 (accI L S d a), false, hh) := by
    rw [callFn_at (show pr.fns 103 = some c103 from rfl) (by simp)]
    simp only [go_sem, c103, hw, hl, reduceIte, Nat.reduceEqDiff, Nat.reduceAdd, Nat.reduceSub, Nat.reduceLT, Nat.reduceLeDiff, Nat.reduceMul, Int.reduceLT, Int.reduceLE, Int.reduceEq, Int.reduceNe, Int.reduceAdd, Int.reduceSub, Int.reduceNeg, Int.reduceMul]
    exact ⟨_, rfl⟩
  obtain ⟨hh, this⟩ := this
  exact callIso_of rfl this rfl rfl
theorem I104 (L S A : Int) (hS : S ≤ 1000) : callIso pr (X pr) 104 [.agg [.int .i64 L, .int .i64 S, .int .i64 A]] = some (.int .i64 (binI L S), false) := by
  have : ∃ hh, callFn pr (X pr) 104 [.agg [.int .i64 L, .int .i64 S, .int .i64 A]] [] = some (.int .i64 (binI L S), false, hh) := by
    rw [callFn_at (show pr.fns 104 = some c104 from rfl) (by simp)]
    simp only [go_sem, c104, I137 L S (by omega), reduceIte, Nat.reduceEqDiff, Nat.reduceAdd, Nat.reduceSub, Nat.reduceLT, Nat.reduceLeDiff, Nat.reduceMul, Int.reduceLT, Int.reduceLE, Int.reduceEq, Int.reduceNe, Int.reduceAdd, Int.reduceSub, Int.reduceNeg, Int.reduceMul]
    exact ⟨_, rfl⟩
  obtain ⟨hh, this⟩ := this
  exact callIso_of rfl this rfl rfl

theorem l47 (L S d : Int) (a : Nat) (b1 : ABox) (ha : a ≤ 1000) (hS : 0 ≤ S) (hS2 : S ≤ 1000) :
    X pr (.loop c47_0) ⟨[(1, .int .i64 d, false), (2, .ptr 0 0, false), (4, .ptr 1 0, false), (5, .int .i64 0, false), (6, .int .i64 0, false)], [pBox L S a, b1]⟩ =
      some (.exit 0, ⟨[(1, .int .i64 d, false), (2, .ptr 0 0, false), (4, .ptr 1 0, false), (5, .int .i64 (accI L S d a), false), (6, .int .i64 ((a + 1 : Nat) : Int), false), (10, .bool false, false)], [pBox L S a, b1]⟩) := by
  have hlen : (List.range (a + 1)).length = a + 1 := List.length_range
  have := X_loop_list (p := pr) (c := c47_0) (δ := Empty) (List.range (a + 1)) (fun i (s : Int) => ⟨[(1, .int .i64 d, false), (2, .ptr 0 0, false), (4, .ptr 1 0, false), (5, .int .i64 s, false), (6, .int .i64 (i : Int), false)], [pBox L S a, b1]⟩)
    (fun _ s t => .inl (accStep L S d s t)) (fun s => (.exit 0, ⟨[(1, .int .i64 d, false), (2, .ptr 0 0, false), (4, .ptr 1 0, false), (5, .int .i64 s, false), (6, .int .i64 ((a + 1 : Nat) : Int), false), (10, .bool false, false)], [pBox L S a, b1]⟩))
    (fun d => nomatch d) (fun _ _ => True) 0 (fun _ h => by cases h) (fun d => nomatch d) ?_ ?_ trivial
  · rw [Int.natCast_zero, runL_fold (accStep L S d)] at this
    exact this
  · intro s _
    have hlt : ¬ (((a + 1 : Nat) : Int) ≤ (a : Int)) := by omega
    simp only [hlen]
    simp only [go_sem, c47_0, pBox, hlt, reduceIte, Nat.reduceEqDiff, Nat.reduceAdd, Nat.reduceSub, Nat.reduceLT, Nat.reduceLeDiff, Nat.reduceMul, Int.reduceLT, Int.reduceLE, Int.reduceEq, Int.reduceNe, Int.reduceAdd, Int.reduceSub, Int.reduceNeg, Int.reduceMul]
  · intro i s t hx hi _
    obtain ⟨rfl, hi'⟩ := range_at hx
    have hlt : (t : Int) ≤ (a : Int) := by omega
    have hw := wrap_succ hi' (by omega)
    have h1 := I107 d (t : Int) (by omega)
    have h2 := I107 (wrapF .i64 (L - d)) (wrapF .i64 (S - (t : Int))) (by rw [wrapF_i64 (by omega) (by omega)]; omega)
    refine stepL_in rfl trivial ?_ (gc_same (Nat.le_refl _))
    simp only [go_sem, c47_0, pBox, hlt, hw, h1, h2, accStep, reduceIte, Nat.reduceEqDiff, Nat.reduceAdd, Nat.reduceSub, Nat.reduceLT, Nat.reduceLeDiff, Nat.reduceMul, Int.reduceLT, Int.reduceLE, Int.reduceEq, Int.reduceNe, Int.reduceAdd, Int.reduceSub, Int.reduceNeg, Int.reduceMul]

end Go.Z
