/-
  The smallest plan: functions that mirror the runs, and the runs (printed by walk.py).
-/
import Derived.Test.YtbkpojiedkhfkaaGreatG1
set_option linter.unusedVariables false
set_option linter.unusedSimpArgs false
set_option maxRecDepth 100000
set_option linter.unusedSimpArgs false
set_option linter.unusedVariables false
namespace Go.Z
open Go Go.Abs
noncomputable def s51_1 (a0 : Int) (a1 : Int) (a2 : Int) (a3 : Most) (s0 : Int) (s1 : Int) : Option (Int ⊕ ((Int × Int × Int × Int × Int × Int) ⊕ Int)) :=
  cond (decide (s1 < s0))
   (obind (E48 (⟨a0, s0, s1⟩) a1 a2) fun v95 =>
    obind (E110 (⟨v95.x0, v95.d0⟩) (⟨a3.x0, a3.d0⟩)) fun v97 =>
    cond v97
     (some (.inl (wrapF .i64 (s1 + 1))))
     (obind (E110 (⟨v95.x1, v95.d1⟩) (⟨a3.x1, a3.d1⟩)) fun v100 =>
      cond v100
       (some (.inl (wrapF .i64 (s1 + 1))))
       (some (.inr (.inl (s1, s1, v95.x0, v95.d0, v95.x1, v95.d1))))))
   (some (.inr (.inr (s1))))
def St51_1 (a0 : Int) (a1 : Int) (a2 : Int) (a3 : Most) (s0 : Int) (s1 : Int) : ASt := ⟨[(0, .int .i64 a0, false), (1, .int .i64 a1, false), (2, .int .i64 a2, false), (7, .ptr 0 0, false), (8, .ptr 1 0, false), (11, .ptr 2 0, false), (12, .int .i64 s0, false), (39, .int .i64 s0, false), (40, .int .i64 s1, false)], [.cells [(.int .i64 a3.x0, false), (.int .i64 a3.d0, false), (.int .i64 a3.x1, false), (.int .i64 a3.d1, false)], .cells [(.int .i64 0, false), (.int .i64 0, false), (.int .i64 0, false)], .cells [(.int .i64 0, false), (.int .i64 0, false), (.int .i64 0, false)]]⟩
def Ex51_1 (a0 : Int) (a1 : Int) (a2 : Int) (a3 : Most) (s0 : Int) : (Int × Int × Int × Int × Int × Int) ⊕ Int → AExit × ASt
  | .inl d => (.exit 0, ⟨[(8, .ptr 1 0, false), (11, .ptr 2 0, false)], [.cells [(.int .i64 a3.x0, false), (.int .i64 a3.d0, false), (.int .i64 a3.x1, false), (.int .i64 a3.d1, false)], .cells [(.int .i64 0, false), (.int .i64 0, false), (.int .i64 0, false)], .cells [(.int .i64 a0, false), (.int .i64 s0, false), (.int .i64 d.1, false)], .cells [(.int .i64 a0, false), (.int .i64 s0, false), (.int .i64 d.2.1, false)], .cells [(.int .i64 d.2.2.1, false), (.int .i64 d.2.2.2.1, false), (.int .i64 d.2.2.2.2.1, false), (.int .i64 d.2.2.2.2.2, false)]]⟩)
  | .inr (d) => (.exit 2, ⟨[(0, .int .i64 a0, false), (1, .int .i64 a1, false), (2, .int .i64 a2, false), (7, .ptr 0 0, false), (8, .ptr 1 0, false), (11, .ptr 2 0, false), (12, .int .i64 s0, false), (39, .int .i64 s0, false), (40, .int .i64 d, false), (41, .bool false, false)], [.cells [(.int .i64 a3.x0, false), (.int .i64 a3.d0, false), (.int .i64 a3.x1, false), (.int .i64 a3.d1, false)], .cells [(.int .i64 0, false), (.int .i64 0, false), (.int .i64 0, false)], .cells [(.int .i64 0, false), (.int .i64 0, false), (.int .i64 0, false)]]⟩)
theorem b51_1 (a0 : Int) (a1 : Int) (a2 : Int) (a3 : Most) (s0 : Int) (s1 : Int) (r) (h : s51_1 a0 a1 a2 a3 s0 s1 = some r) : stepO pr c51_1 (St51_1 a0 a1 a2 a3 s0) (Ex51_1 a0 a1 a2 a3 s0) s1 r := by
  unfold s51_1 at h
  rcases cond_split h with ⟨h94, h⟩ | ⟨h94, h⟩
  · obtain ⟨v95, h96, h⟩ := obind_some h
    have wh96 : callIso pr (X pr) 106 [.agg [.int .i64 a0, .int .i64 s0, .int .i64 s1], .int .i64 a1, .int .i64 a2] = some (.agg [.int .i64 v95.x0, .int .i64 v95.d0, .int .i64 v95.x1, .int .i64 v95.d1], false) := WE106 h96
    obtain ⟨v97, h98, h⟩ := obind_some h
    have wh98 : callIso pr (X pr) 110 [.agg [.int .i64 v95.x0, .int .i64 v95.d0], .agg [.int .i64 a3.x0, .int .i64 a3.d0]] = some (.bool v97, false) := WE110 h98
    rcases cond_split h with ⟨h99, h⟩ | ⟨h99, h⟩
    · cases h.symm
      exact stepO_in (st' := ⟨[(0, .int .i64 a0, false), (1, .int .i64 a1, false), (2, .int .i64 a2, false), (7, .ptr 0 0, false), (8, .ptr 1 0, false), (11, .ptr 2 0, false), (12, .int .i64 s0, false), (39, .int .i64 s0, false), (40, .int .i64 (wrapF .i64 (s1 + 1)), false)], [.cells [(.int .i64 a3.x0, false), (.int .i64 a3.d0, false), (.int .i64 a3.x1, false), (.int .i64 a3.d1, false)], .cells [(.int .i64 0, false), (.int .i64 0, false), (.int .i64 0, false)], .cells [(.int .i64 0, false), (.int .i64 0, false), (.int .i64 0, false)]] ++ [.cells [(.int .i64 a0, false), (.int .i64 s0, false), (.int .i64 s1, false)], .cells [(.int .i64 v95.x0, false), (.int .i64 v95.d0, false), (.int .i64 v95.x1, false), (.int .i64 v95.d1, false)]]⟩) (by simp only [go_sem, c51_1, St51_1, h94, wh96, wh98, h99, reduceIte, Nat.reduceEqDiff, Nat.reduceAdd, Nat.reduceSub, Nat.reduceLT, Nat.reduceLeDiff, Nat.reduceMul, Int.reduceLT, Int.reduceLE, Int.reduceEq, Int.reduceNe, Int.reduceAdd, Int.reduceSub, Int.reduceNeg, Int.reduceMul]) (gc_over rfl rfl (by first | simp only [go_sem, St51_1, reduceIte, Nat.reduceEqDiff, Nat.reduceAdd, Nat.reduceSub, Nat.reduceLT, Nat.reduceLeDiff, Nat.reduceMul, Int.reduceLT, Int.reduceLE, Int.reduceEq, Int.reduceNe, Int.reduceAdd, Int.reduceSub, Int.reduceNeg, Int.reduceMul] | rfl) (by first | simp only [go_sem, St51_1, reduceIte, Nat.reduceEqDiff, Nat.reduceAdd, Nat.reduceSub, Nat.reduceLT, Nat.reduceLeDiff, Nat.reduceMul, Int.reduceLT, Int.reduceLE, Int.reduceEq, Int.reduceNe, Int.reduceAdd, Int.reduceSub, Int.reduceNeg, Int.reduceMul] | rfl))
    · obtain ⟨v100, h101, h⟩ := obind_some h
      have wh101 : callIso pr (X pr) 110 [.agg [.int .i64 v95.x1, .int .i64 v95.d1], .agg [.int .i64 a3.x1, .int .i64 a3.d1]] = some (.bool v100, false) := WE110 h101
      rcases cond_split h with ⟨h102, h⟩ | ⟨h102, h⟩
      · cases h.symm
        exact stepO_in (st' := ⟨[(0, .int .i64 a0, false), (1, .int .i64 a1, false), (2, .int .i64 a2, false), (7, .ptr 0 0, false), (8, .ptr 1 0, false), (11, .ptr 2 0, false), (12, .int .i64 s0, false), (39, .int .i64 s0, false), (40, .int .i64 (wrapF .i64 (s1 + 1)), false)], [.cells [(.int .i64 a3.x0, false), (.int .i64 a3.d0, false), (.int .i64 a3.x1, false), (.int .i64 a3.d1, false)], .cells [(.int .i64 0, false), (.int .i64 0, false), (.int .i64 0, false)], .cells [(.int .i64 0, false), (.int .i64 0, false), (.int .i64 0, false)]] ++ [.cells [(.int .i64 a0, false), (.int .i64 s0, false), (.int .i64 s1, false)], .cells [(.int .i64 v95.x0, false), (.int .i64 v95.d0, false), (.int .i64 v95.x1, false), (.int .i64 v95.d1, false)]]⟩) (by simp only [go_sem, c51_1, St51_1, h94, wh96, wh98, h99, wh101, h102, reduceIte, Nat.reduceEqDiff, Nat.reduceAdd, Nat.reduceSub, Nat.reduceLT, Nat.reduceLeDiff, Nat.reduceMul, Int.reduceLT, Int.reduceLE, Int.reduceEq, Int.reduceNe, Int.reduceAdd, Int.reduceSub, Int.reduceNeg, Int.reduceMul]) (gc_over rfl rfl (by first | simp only [go_sem, St51_1, reduceIte, Nat.reduceEqDiff, Nat.reduceAdd, Nat.reduceSub, Nat.reduceLT, Nat.reduceLeDiff, Nat.reduceMul, Int.reduceLT, Int.reduceLE, Int.reduceEq, Int.reduceNe, Int.reduceAdd, Int.reduceSub, Int.reduceNeg, Int.reduceMul] | rfl) (by first | simp only [go_sem, St51_1, reduceIte, Nat.reduceEqDiff, Nat.reduceAdd, Nat.reduceSub, Nat.reduceLT, Nat.reduceLeDiff, Nat.reduceMul, Int.reduceLT, Int.reduceLE, Int.reduceEq, Int.reduceNe, Int.reduceAdd, Int.reduceSub, Int.reduceNeg, Int.reduceMul] | rfl))
      · cases h.symm
        exact stepO_out (by simp only [go_sem, c51_1, St51_1, h94, wh96, wh98, h99, wh101, h102, Ex51_1, reduceIte, Nat.reduceEqDiff, Nat.reduceAdd, Nat.reduceSub, Nat.reduceLT, Nat.reduceLeDiff, Nat.reduceMul, Int.reduceLT, Int.reduceLE, Int.reduceEq, Int.reduceNe, Int.reduceAdd, Int.reduceSub, Int.reduceNeg, Int.reduceMul])
  · cases h.symm
    exact stepO_out (by simp only [go_sem, c51_1, St51_1, h94, Ex51_1, reduceIte, Nat.reduceEqDiff, Nat.reduceAdd, Nat.reduceSub, Nat.reduceLT, Nat.reduceLeDiff, Nat.reduceMul, Int.reduceLT, Int.reduceLE, Int.reduceEq, Int.reduceNe, Int.reduceAdd, Int.reduceSub, Int.reduceNeg, Int.reduceMul])
theorem l51_1 (a0 : Int) (a1 : Int) (a2 : Int) (a3 : Most) (s0 : Int) {s : Int} {d} (h : itO (s51_1 a0 a1 a2 a3 s0) s = some d) : X pr (.loop c51_1) (St51_1 a0 a1 a2 a3 s0 s) = some (Ex51_1 a0 a1 a2 a3 s0 d) := X_itO (b51_1 a0 a1 a2 a3 s0) (fun d => by rcases d with d|d <;> (intro hh; cases hh)) h
noncomputable def s51_0 (a0 : Int) (a1 : Int) (a2 : Int) (a3 : Most) (s0 : Int) : Option (Int ⊕ ((Int × Int × Int × Int × Int × Int × Int × Int) ⊕ Int)) :=
  cond (decide (s0 ≤ a0))
   (obind (itO (s51_1 a0 a1 a2 a3 s0) 0) fun d103 => match d103 with
      | .inl d105 =>
        some (.inr (.inl (s0, d105.1, s0, d105.2.1, d105.2.2.1, d105.2.2.2.1, d105.2.2.2.2.1, d105.2.2.2.2.2)))
      | .inr d106 =>
        some (.inl (wrapF .i64 (s0 + 1))))
   (some (.inr (.inr (s0))))
def St51_0 (a0 : Int) (a1 : Int) (a2 : Int) (a3 : Most) (s0 : Int) : ASt := ⟨[(0, .int .i64 a0, false), (1, .int .i64 a1, false), (2, .int .i64 a2, false), (7, .ptr 0 0, false), (8, .ptr 1 0, false), (11, .ptr 2 0, false), (12, .int .i64 s0, false)], [.cells [(.int .i64 a3.x0, false), (.int .i64 a3.d0, false), (.int .i64 a3.x1, false), (.int .i64 a3.d1, false)], .cells [(.int .i64 0, false), (.int .i64 0, false), (.int .i64 0, false)], .cells [(.int .i64 0, false), (.int .i64 0, false), (.int .i64 0, false)]]⟩
def Ex51_0 (a0 : Int) (a1 : Int) (a2 : Int) (a3 : Most) : (Int × Int × Int × Int × Int × Int × Int × Int) ⊕ Int → AExit × ASt
  | .inl d => (.exit 0, ⟨[(8, .ptr 1 0, false), (11, .ptr 2 0, false)], [.cells [(.int .i64 a3.x0, false), (.int .i64 a3.d0, false), (.int .i64 a3.x1, false), (.int .i64 a3.d1, false)], .cells [(.int .i64 0, false), (.int .i64 0, false), (.int .i64 0, false)], .cells [(.int .i64 a0, false), (.int .i64 d.1, false), (.int .i64 d.2.1, false)], .cells [(.int .i64 a0, false), (.int .i64 d.2.2.1, false), (.int .i64 d.2.2.2.1, false)], .cells [(.int .i64 d.2.2.2.2.1, false), (.int .i64 d.2.2.2.2.2.1, false), (.int .i64 d.2.2.2.2.2.2.1, false), (.int .i64 d.2.2.2.2.2.2.2, false)]]⟩)
  | .inr (d) => (.exit 0, ⟨[(0, .int .i64 a0, false), (1, .int .i64 a1, false), (2, .int .i64 a2, false), (7, .ptr 0 0, false), (8, .ptr 1 0, false), (11, .ptr 2 0, false), (12, .int .i64 d, false), (36, .bool false, false)], [.cells [(.int .i64 a3.x0, false), (.int .i64 a3.d0, false), (.int .i64 a3.x1, false), (.int .i64 a3.d1, false)], .cells [(.int .i64 0, false), (.int .i64 0, false), (.int .i64 0, false)], .cells [(.int .i64 0, false), (.int .i64 0, false), (.int .i64 0, false)]]⟩)
theorem b51_0 (a0 : Int) (a1 : Int) (a2 : Int) (a3 : Most) (s0 : Int) (r) (h : s51_0 a0 a1 a2 a3 s0 = some r) : stepO pr c51_0 (St51_0 a0 a1 a2 a3) (Ex51_0 a0 a1 a2 a3) s0 r := by
  unfold s51_0 at h
  rcases cond_split h with ⟨h75, h⟩ | ⟨h75, h⟩
  · obtain ⟨d103, h104, h⟩ := obind_some h
    rcases d103 with d105 | d106
    · have wh104 : X pr (.loop c51_1) ⟨[(0, .int .i64 a0, false), (1, .int .i64 a1, false), (2, .int .i64 a2, false), (7, .ptr 0 0, false), (8, .ptr 1 0, false), (11, .ptr 2 0, false), (12, .int .i64 s0, false), (39, .int .i64 s0, false), (40, .int .i64 0, false)], [.cells [(.int .i64 a3.x0, false), (.int .i64 a3.d0, false), (.int .i64 a3.x1, false), (.int .i64 a3.d1, false)], .cells [(.int .i64 0, false), (.int .i64 0, false), (.int .i64 0, false)], .cells [(.int .i64 0, false), (.int .i64 0, false), (.int .i64 0, false)]]⟩ = some (.exit 0, ⟨[(8, .ptr 1 0, false), (11, .ptr 2 0, false)], [.cells [(.int .i64 a3.x0, false), (.int .i64 a3.d0, false), (.int .i64 a3.x1, false), (.int .i64 a3.d1, false)], .cells [(.int .i64 0, false), (.int .i64 0, false), (.int .i64 0, false)], .cells [(.int .i64 a0, false), (.int .i64 s0, false), (.int .i64 d105.1, false)], .cells [(.int .i64 a0, false), (.int .i64 s0, false), (.int .i64 d105.2.1, false)], .cells [(.int .i64 d105.2.2.1, false), (.int .i64 d105.2.2.2.1, false), (.int .i64 d105.2.2.2.2.1, false), (.int .i64 d105.2.2.2.2.2, false)]]⟩) := l51_1 a0 a1 a2 a3 s0 h104
      cases h.symm
      exact stepO_out (by simp only [go_sem, c51_0, St51_0, h75, wh104, Ex51_0, reduceIte, Nat.reduceEqDiff, Nat.reduceAdd, Nat.reduceSub, Nat.reduceLT, Nat.reduceLeDiff, Nat.reduceMul, Int.reduceLT, Int.reduceLE, Int.reduceEq, Int.reduceNe, Int.reduceAdd, Int.reduceSub, Int.reduceNeg, Int.reduceMul])
    · have wh104 : X pr (.loop c51_1) ⟨[(0, .int .i64 a0, false), (1, .int .i64 a1, false), (2, .int .i64 a2, false), (7, .ptr 0 0, false), (8, .ptr 1 0, false), (11, .ptr 2 0, false), (12, .int .i64 s0, false), (39, .int .i64 s0, false), (40, .int .i64 0, false)], [.cells [(.int .i64 a3.x0, false), (.int .i64 a3.d0, false), (.int .i64 a3.x1, false), (.int .i64 a3.d1, false)], .cells [(.int .i64 0, false), (.int .i64 0, false), (.int .i64 0, false)], .cells [(.int .i64 0, false), (.int .i64 0, false), (.int .i64 0, false)]]⟩ = some (.exit 2, ⟨[(0, .int .i64 a0, false), (1, .int .i64 a1, false), (2, .int .i64 a2, false), (7, .ptr 0 0, false), (8, .ptr 1 0, false), (11, .ptr 2 0, false), (12, .int .i64 s0, false), (39, .int .i64 s0, false), (40, .int .i64 d106, false), (41, .bool false, false)], [.cells [(.int .i64 a3.x0, false), (.int .i64 a3.d0, false), (.int .i64 a3.x1, false), (.int .i64 a3.d1, false)], .cells [(.int .i64 0, false), (.int .i64 0, false), (.int .i64 0, false)], .cells [(.int .i64 0, false), (.int .i64 0, false), (.int .i64 0, false)]]⟩) := l51_1 a0 a1 a2 a3 s0 h104
      cases h.symm
      exact stepO_in (st' := ⟨[(0, .int .i64 a0, false), (1, .int .i64 a1, false), (2, .int .i64 a2, false), (7, .ptr 0 0, false), (8, .ptr 1 0, false), (11, .ptr 2 0, false), (12, .int .i64 (wrapF .i64 (s0 + 1)), false)], [.cells [(.int .i64 a3.x0, false), (.int .i64 a3.d0, false), (.int .i64 a3.x1, false), (.int .i64 a3.d1, false)], .cells [(.int .i64 0, false), (.int .i64 0, false), (.int .i64 0, false)], .cells [(.int .i64 0, false), (.int .i64 0, false), (.int .i64 0, false)]]⟩) (by simp only [go_sem, c51_0, St51_0, h75, wh104, reduceIte, Nat.reduceEqDiff, Nat.reduceAdd, Nat.reduceSub, Nat.reduceLT, Nat.reduceLeDiff, Nat.reduceMul, Int.reduceLT, Int.reduceLE, Int.reduceEq, Int.reduceNe, Int.reduceAdd, Int.reduceSub, Int.reduceNeg, Int.reduceMul]) (gc_same (Nat.le_refl _))
  · cases h.symm
    exact stepO_out (by simp only [go_sem, c51_0, St51_0, h75, Ex51_0, reduceIte, Nat.reduceEqDiff, Nat.reduceAdd, Nat.reduceSub, Nat.reduceLT, Nat.reduceLeDiff, Nat.reduceMul, Int.reduceLT, Int.reduceLE, Int.reduceEq, Int.reduceNe, Int.reduceAdd, Int.reduceSub, Int.reduceNeg, Int.reduceMul])
theorem l51_0 (a0 : Int) (a1 : Int) (a2 : Int) (a3 : Most) {s : Int} {d} (h : itO (s51_0 a0 a1 a2 a3) s = some d) : X pr (.loop c51_0) (St51_0 a0 a1 a2 a3 s) = some (Ex51_0 a0 a1 a2 a3 d) := X_itO (b51_0 a0 a1 a2 a3) (fun d => by rcases d with d|d <;> (intro hh; cases hh)) h
noncomputable def f51 (a0 : Int) (a1 : Int) (a2 : Int) (a3 : Most) : Option (GPlan × Int) :=
  obind (E108 a0) fun v1 =>
  obind (E46 a0 a1 a2) fun v3 =>
  obind (E52 (⟨a3.x0, a3.d0⟩)) fun v5 =>
  obind (E52 (⟨a3.x1, a3.d1⟩)) fun v7 =>
  obind (E21 (some [v1, v3, v5, v7])) fun v9 =>
  cond (decide (v9 = 0))
   (obind (itO (s51_0 a0 a1 a2 a3) 1) fun d107 => match d107 with
      | .inl d109 =>
        cond (decide (a0 = 0) && decide (d109.1 = 0) && decide (d109.2.1 = 0))
         (some (⟨0, 0, 0⟩, 24))
         (some (⟨a0, d109.1, d109.2.1⟩, 0))
      | .inr d111 =>
        some (⟨0, 0, 0⟩, 24))
   (some (⟨0, 0, 0⟩, v9))
theorem W51 {a0 : Int} {a1 : Int} {a2 : Int} {a3 : Most} {r} (h : f51 a0 a1 a2 a3 = some r) : callIso pr (X pr) 51 [.int .i64 a0, .int .i64 a1, .int .i64 a2, .agg [.int .i64 a3.x0, .int .i64 a3.d0, .int .i64 a3.x1, .int .i64 a3.d1]] = some (.tup [.agg [.int .i64 r.1.lot, .int .i64 r.1.sample, .int .i64 r.1.accept], .int .i64 r.2], false) := by
  unfold f51 at h
  obtain ⟨v1, h2, h⟩ := obind_some h
  have wh2 : callIso pr (X pr) 108 [.int .i64 a0] = some (.int .i64 v1, false) := WE108 h2
  obtain ⟨v3, h4, h⟩ := obind_some h
  have wh4 : callIso pr (X pr) 105 [.int .i64 a0, .int .i64 a1, .int .i64 a2] = some (.int .i64 v3, false) := WE105 h4
  obtain ⟨v5, h6, h⟩ := obind_some h
  have wh6 : callIso pr (X pr) 109 [.agg [.int .i64 a3.x0, .int .i64 a3.d0]] = some (.int .i64 v5, false) := WE109 h6
  obtain ⟨v7, h8, h⟩ := obind_some h
  have wh8 : callIso pr (X pr) 109 [.agg [.int .i64 a3.x1, .int .i64 a3.d1]] = some (.int .i64 v7, false) := WE109 h8
  obtain ⟨v9, h10, h⟩ := obind_some h
  have wh10 : callIso pr (X pr) 87 [.list false 1 [.int .i64 v1, .int .i64 v3, .int .i64 v5, .int .i64 v7]] = some (.int .i64 v9, false) := WE87 h10
  rcases cond_split h with ⟨h11, h⟩ | ⟨h11, h⟩
  · obtain ⟨d107, h108, h⟩ := obind_some h
    rcases d107 with d109 | d111
    · have wh108 : X pr (.loop c51_0) ⟨[(0, .int .i64 a0, false), (1, .int .i64 a1, false), (2, .int .i64 a2, false), (7, .ptr 0 0, false), (8, .ptr 1 0, false), (11, .ptr 2 0, false), (12, .int .i64 1, false)], [.cells [(.int .i64 a3.x0, false), (.int .i64 a3.d0, false), (.int .i64 a3.x1, false), (.int .i64 a3.d1, false)], .cells [(.int .i64 0, false), (.int .i64 0, false), (.int .i64 0, false)], .cells [(.int .i64 0, false), (.int .i64 0, false), (.int .i64 0, false)]]⟩ = some (.exit 0, ⟨[(8, .ptr 1 0, false), (11, .ptr 2 0, false)], [.cells [(.int .i64 a3.x0, false), (.int .i64 a3.d0, false), (.int .i64 a3.x1, false), (.int .i64 a3.d1, false)], .cells [(.int .i64 0, false), (.int .i64 0, false), (.int .i64 0, false)], .cells [(.int .i64 a0, false), (.int .i64 d109.1, false), (.int .i64 d109.2.1, false)], .cells [(.int .i64 a0, false), (.int .i64 d109.2.2.1, false), (.int .i64 d109.2.2.2.1, false)], .cells [(.int .i64 d109.2.2.2.2.1, false), (.int .i64 d109.2.2.2.2.2.1, false), (.int .i64 d109.2.2.2.2.2.2.1, false), (.int .i64 d109.2.2.2.2.2.2.2, false)]]⟩) := l51_0 a0 a1 a2 a3 h108
      rcases cond_split h with ⟨h110, h⟩ | ⟨h110, h⟩
      · have hr : (⟨0, 0, 0⟩, 24) = r := Option.some.inj h
        subst hr
        have this : ∃ hh, callFn pr (X pr) 51 [.int .i64 a0, .int .i64 a1, .int .i64 a2, .agg [.int .i64 a3.x0, .int .i64 a3.d0, .int .i64 a3.x1, .int .i64 a3.d1]] [] = some (.tup [.agg [.int .i64 0, .int .i64 0, .int .i64 0], .int .i64 24], false, hh) := by
          rw [callFn_at (show pr.fns 51 = some c51 from rfl) (by simp)]
          simp only [go_sem, c51, wh2, wh4, wh6, wh8, wh10, h11, wh108, h110, reduceIte, Nat.reduceEqDiff, Nat.reduceAdd, Nat.reduceSub, Nat.reduceLT, Nat.reduceLeDiff, Nat.reduceMul, Int.reduceLT, Int.reduceLE, Int.reduceEq, Int.reduceNe, Int.reduceAdd, Int.reduceSub, Int.reduceNeg, Int.reduceMul]
          exact ⟨_, rfl⟩
        obtain ⟨hh, this⟩ := this
        exact callIso_of rfl this (by simp only [go_sem, reduceIte, Nat.reduceEqDiff, Nat.reduceAdd, Nat.reduceSub, Nat.reduceLT, Nat.reduceLeDiff, Nat.reduceMul, Int.reduceLT, Int.reduceLE, Int.reduceEq, Int.reduceNe, Int.reduceAdd, Int.reduceSub, Int.reduceNeg, Int.reduceMul]) (by simp only [go_sem, reduceIte, Nat.reduceEqDiff, Nat.reduceAdd, Nat.reduceSub, Nat.reduceLT, Nat.reduceLeDiff, Nat.reduceMul, Int.reduceLT, Int.reduceLE, Int.reduceEq, Int.reduceNe, Int.reduceAdd, Int.reduceSub, Int.reduceNeg, Int.reduceMul])
      · have hr : (⟨a0, d109.1, d109.2.1⟩, 0) = r := Option.some.inj h
        subst hr
        have this : ∃ hh, callFn pr (X pr) 51 [.int .i64 a0, .int .i64 a1, .int .i64 a2, .agg [.int .i64 a3.x0, .int .i64 a3.d0, .int .i64 a3.x1, .int .i64 a3.d1]] [] = some (.tup [.agg [.int .i64 a0, .int .i64 d109.1, .int .i64 d109.2.1], .int .i64 0], false, hh) := by
          rw [callFn_at (show pr.fns 51 = some c51 from rfl) (by simp)]
          simp only [go_sem, c51, wh2, wh4, wh6, wh8, wh10, h11, wh108, h110, reduceIte, Nat.reduceEqDiff, Nat.reduceAdd, Nat.reduceSub, Nat.reduceLT, Nat.reduceLeDiff, Nat.reduceMul, Int.reduceLT, Int.reduceLE, Int.reduceEq, Int.reduceNe, Int.reduceAdd, Int.reduceSub, Int.reduceNeg, Int.reduceMul]
          exact ⟨_, rfl⟩
        obtain ⟨hh, this⟩ := this
        exact callIso_of rfl this (by simp only [go_sem, reduceIte, Nat.reduceEqDiff, Nat.reduceAdd, Nat.reduceSub, Nat.reduceLT, Nat.reduceLeDiff, Nat.reduceMul, Int.reduceLT, Int.reduceLE, Int.reduceEq, Int.reduceNe, Int.reduceAdd, Int.reduceSub, Int.reduceNeg, Int.reduceMul]) (by simp only [go_sem, reduceIte, Nat.reduceEqDiff, Nat.reduceAdd, Nat.reduceSub, Nat.reduceLT, Nat.reduceLeDiff, Nat.reduceMul, Int.reduceLT, Int.reduceLE, Int.reduceEq, Int.reduceNe, Int.reduceAdd, Int.reduceSub, Int.reduceNeg, Int.reduceMul])
    · have wh108 : X pr (.loop c51_0) ⟨[(0, .int .i64 a0, false), (1, .int .i64 a1, false), (2, .int .i64 a2, false), (7, .ptr 0 0, false), (8, .ptr 1 0, false), (11, .ptr 2 0, false), (12, .int .i64 1, false)], [.cells [(.int .i64 a3.x0, false), (.int .i64 a3.d0, false), (.int .i64 a3.x1, false), (.int .i64 a3.d1, false)], .cells [(.int .i64 0, false), (.int .i64 0, false), (.int .i64 0, false)], .cells [(.int .i64 0, false), (.int .i64 0, false), (.int .i64 0, false)]]⟩ = some (.exit 0, ⟨[(0, .int .i64 a0, false), (1, .int .i64 a1, false), (2, .int .i64 a2, false), (7, .ptr 0 0, false), (8, .ptr 1 0, false), (11, .ptr 2 0, false), (12, .int .i64 d111, false), (36, .bool false, false)], [.cells [(.int .i64 a3.x0, false), (.int .i64 a3.d0, false), (.int .i64 a3.x1, false), (.int .i64 a3.d1, false)], .cells [(.int .i64 0, false), (.int .i64 0, false), (.int .i64 0, false)], .cells [(.int .i64 0, false), (.int .i64 0, false), (.int .i64 0, false)]]⟩) := l51_0 a0 a1 a2 a3 h108
      have hr : (⟨0, 0, 0⟩, 24) = r := Option.some.inj h
      subst hr
      have this : ∃ hh, callFn pr (X pr) 51 [.int .i64 a0, .int .i64 a1, .int .i64 a2, .agg [.int .i64 a3.x0, .int .i64 a3.d0, .int .i64 a3.x1, .int .i64 a3.d1]] [] = some (.tup [.agg [.int .i64 0, .int .i64 0, .int .i64 0], .int .i64 24], false, hh) := by
        rw [callFn_at (show pr.fns 51 = some c51 from rfl) (by simp)]
        simp only [go_sem, c51, wh2, wh4, wh6, wh8, wh10, h11, wh108, reduceIte, Nat.reduceEqDiff, Nat.reduceAdd, Nat.reduceSub, Nat.reduceLT, Nat.reduceLeDiff, Nat.reduceMul, Int.reduceLT, Int.reduceLE, Int.reduceEq, Int.reduceNe, Int.reduceAdd, Int.reduceSub, Int.reduceNeg, Int.reduceMul]
        exact ⟨_, rfl⟩
      obtain ⟨hh, this⟩ := this
      exact callIso_of rfl this (by simp only [go_sem, reduceIte, Nat.reduceEqDiff, Nat.reduceAdd, Nat.reduceSub, Nat.reduceLT, Nat.reduceLeDiff, Nat.reduceMul, Int.reduceLT, Int.reduceLE, Int.reduceEq, Int.reduceNe, Int.reduceAdd, Int.reduceSub, Int.reduceNeg, Int.reduceMul]) (by simp only [go_sem, reduceIte, Nat.reduceEqDiff, Nat.reduceAdd, Nat.reduceSub, Nat.reduceLT, Nat.reduceLeDiff, Nat.reduceMul, Int.reduceLT, Int.reduceLE, Int.reduceEq, Int.reduceNe, Int.reduceAdd, Int.reduceSub, Int.reduceNeg, Int.reduceMul])
  · have hr : (⟨0, 0, 0⟩, v9) = r := Option.some.inj h
    subst hr
    have this : ∃ hh, callFn pr (X pr) 51 [.int .i64 a0, .int .i64 a1, .int .i64 a2, .agg [.int .i64 a3.x0, .int .i64 a3.d0, .int .i64 a3.x1, .int .i64 a3.d1]] [] = some (.tup [.agg [.int .i64 0, .int .i64 0, .int .i64 0], .int .i64 v9], false, hh) := by
      rw [callFn_at (show pr.fns 51 = some c51 from rfl) (by simp)]
      simp only [go_sem, c51, wh2, wh4, wh6, wh8, wh10, h11, reduceIte, Nat.reduceEqDiff, Nat.reduceAdd, Nat.reduceSub, Nat.reduceLT, Nat.reduceLeDiff, Nat.reduceMul, Int.reduceLT, Int.reduceLE, Int.reduceEq, Int.reduceNe, Int.reduceAdd, Int.reduceSub, Int.reduceNeg, Int.reduceMul]
      exact ⟨_, rfl⟩
    obtain ⟨hh, this⟩ := this
    exact callIso_of rfl this (by simp only [go_sem, reduceIte, Nat.reduceEqDiff, Nat.reduceAdd, Nat.reduceSub, Nat.reduceLT, Nat.reduceLeDiff, Nat.reduceMul, Int.reduceLT, Int.reduceLE, Int.reduceEq, Int.reduceNe, Int.reduceAdd, Int.reduceSub, Int.reduceNeg, Int.reduceMul]) (by simp only [go_sem, reduceIte, Nat.reduceEqDiff, Nat.reduceAdd, Nat.reduceSub, Nat.reduceLT, Nat.reduceLeDiff, Nat.reduceMul, Int.reduceLT, Int.reduceLE, Int.reduceEq, Int.reduceNe, Int.reduceAdd, Int.reduceSub, Int.reduceNeg, Int.reduceMul])
noncomputable def s53_1 (a0 : Int) (a1 : Int) (a2 : Int) (a3 : Most) (s0 : Int) (s1 : Int) : Option (Int ⊕ ((Int × Int × Int × Int × Int × Int) ⊕ Int)) :=
  cond (decide (s1 < s0))
   (obind (E48 (⟨a0, s0, s1⟩) a1 a2) fun v52 =>
    cond (decide ((wrapF .i64 (v52.x0 * a3.d0)) ≤ (wrapF .i64 (a3.x0 * v52.d0))))
     (cond (decide ((wrapF .i64 (v52.x1 * a3.d1)) ≤ (wrapF .i64 (a3.x1 * v52.d1))))
       (some (.inr (.inl (s1, s1, v52.x0, v52.d0, v52.x1, v52.d1))))
       (some (.inl (wrapF .i64 (s1 + 1)))))
     (some (.inl (wrapF .i64 (s1 + 1)))))
   (some (.inr (.inr (s1))))
def St53_1 (a0 : Int) (a1 : Int) (a2 : Int) (a3 : Most) (s0 : Int) (s1 : Int) : ASt := ⟨[(0, .int .i64 a0, false), (1, .int .i64 a1, false), (2, .int .i64 a2, false), (7, .ptr 0 0, false), (8, .ptr 1 0, false), (10, .int .i64 s0, false), (11, .int .i64 s1, false)], [.cells [(.int .i64 a3.x0, false), (.int .i64 a3.d0, false), (.int .i64 a3.x1, false), (.int .i64 a3.d1, false)], .cells [(.int .i64 0, false), (.int .i64 0, false), (.int .i64 0, false)]]⟩
def Ex53_1 (a0 : Int) (a1 : Int) (a2 : Int) (a3 : Most) (s0 : Int) : (Int × Int × Int × Int × Int × Int) ⊕ Int → AExit × ASt
  | .inl d => (.ret, ⟨[(8, .ptr 1 0, false), (9, .int .i64 0, false)], [.cells [(.int .i64 a3.x0, false), (.int .i64 a3.d0, false), (.int .i64 a3.x1, false), (.int .i64 a3.d1, false)], .cells [(.int .i64 a0, false), (.int .i64 s0, false), (.int .i64 d.1, false)], .cells [(.int .i64 a0, false), (.int .i64 s0, false), (.int .i64 d.2.1, false)], .cells [(.int .i64 d.2.2.1, false), (.int .i64 d.2.2.2.1, false), (.int .i64 d.2.2.2.2.1, false), (.int .i64 d.2.2.2.2.2, false)]]⟩)
  | .inr (d) => (.exit 2, ⟨[(0, .int .i64 a0, false), (1, .int .i64 a1, false), (2, .int .i64 a2, false), (7, .ptr 0 0, false), (8, .ptr 1 0, false), (10, .int .i64 s0, false), (11, .int .i64 d, false), (21, .bool false, false)], [.cells [(.int .i64 a3.x0, false), (.int .i64 a3.d0, false), (.int .i64 a3.x1, false), (.int .i64 a3.d1, false)], .cells [(.int .i64 0, false), (.int .i64 0, false), (.int .i64 0, false)]]⟩)
theorem b53_1 (a0 : Int) (a1 : Int) (a2 : Int) (a3 : Most) (s0 : Int) (s1 : Int) (r) (h : s53_1 a0 a1 a2 a3 s0 s1 = some r) : stepO pr c53_1 (St53_1 a0 a1 a2 a3 s0) (Ex53_1 a0 a1 a2 a3 s0) s1 r := by
  unfold s53_1 at h
  rcases cond_split h with ⟨h51, h⟩ | ⟨h51, h⟩
  · obtain ⟨v52, h53, h⟩ := obind_some h
    have wh53 : callIso pr (X pr) 48 [.agg [.int .i64 a0, .int .i64 s0, .int .i64 s1], .int .i64 a1, .int .i64 a2] = some (.agg [.int .i64 v52.x0, .int .i64 v52.d0, .int .i64 v52.x1, .int .i64 v52.d1], false) := WE48 h53
    rcases cond_split h with ⟨h54, h⟩ | ⟨h54, h⟩
    · rcases cond_split h with ⟨h55, h⟩ | ⟨h55, h⟩
      · cases h.symm
        exact stepO_out (by simp only [go_sem, c53_1, St53_1, h51, wh53, h54, h55, Ex53_1, reduceIte, Nat.reduceEqDiff, Nat.reduceAdd, Nat.reduceSub, Nat.reduceLT, Nat.reduceLeDiff, Nat.reduceMul, Int.reduceLT, Int.reduceLE, Int.reduceEq, Int.reduceNe, Int.reduceAdd, Int.reduceSub, Int.reduceNeg, Int.reduceMul])
      · cases h.symm
        exact stepO_in (st' := ⟨[(0, .int .i64 a0, false), (1, .int .i64 a1, false), (2, .int .i64 a2, false), (7, .ptr 0 0, false), (8, .ptr 1 0, false), (10, .int .i64 s0, false), (11, .int .i64 (wrapF .i64 (s1 + 1)), false)], [.cells [(.int .i64 a3.x0, false), (.int .i64 a3.d0, false), (.int .i64 a3.x1, false), (.int .i64 a3.d1, false)], .cells [(.int .i64 0, false), (.int .i64 0, false), (.int .i64 0, false)]] ++ [.cells [(.int .i64 a0, false), (.int .i64 s0, false), (.int .i64 s1, false)], .cells [(.int .i64 v52.x0, false), (.int .i64 v52.d0, false), (.int .i64 v52.x1, false), (.int .i64 v52.d1, false)]]⟩) (by simp only [go_sem, c53_1, St53_1, h51, wh53, h54, h55, reduceIte, Nat.reduceEqDiff, Nat.reduceAdd, Nat.reduceSub, Nat.reduceLT, Nat.reduceLeDiff, Nat.reduceMul, Int.reduceLT, Int.reduceLE, Int.reduceEq, Int.reduceNe, Int.reduceAdd, Int.reduceSub, Int.reduceNeg, Int.reduceMul]) (gc_over rfl rfl (by first | simp only [go_sem, St53_1, reduceIte, Nat.reduceEqDiff, Nat.reduceAdd, Nat.reduceSub, Nat.reduceLT, Nat.reduceLeDiff, Nat.reduceMul, Int.reduceLT, Int.reduceLE, Int.reduceEq, Int.reduceNe, Int.reduceAdd, Int.reduceSub, Int.reduceNeg, Int.reduceMul] | rfl) (by first | simp only [go_sem, St53_1, reduceIte, Nat.reduceEqDiff, Nat.reduceAdd, Nat.reduceSub, Nat.reduceLT, Nat.reduceLeDiff, Nat.reduceMul, Int.reduceLT, Int.reduceLE, Int.reduceEq, Int.reduceNe, Int.reduceAdd, Int.reduceSub, Int.reduceNeg, Int.reduceMul] | rfl))
    · cases h.symm
      exact stepO_in (st' := ⟨[(0, .int .i64 a0, false), (1, .int .i64 a1, false), (2, .int .i64 a2, false), (7, .ptr 0 0, false), (8, .ptr 1 0, false), (10, .int .i64 s0, false), (11, .int .i64 (wrapF .i64 (s1 + 1)), false)], [.cells [(.int .i64 a3.x0, false), (.int .i64 a3.d0, false), (.int .i64 a3.x1, false), (.int .i64 a3.d1, false)], .cells [(.int .i64 0, false), (.int .i64 0, false), (.int .i64 0, false)]] ++ [.cells [(.int .i64 a0, false), (.int .i64 s0, false), (.int .i64 s1, false)], .cells [(.int .i64 v52.x0, false), (.int .i64 v52.d0, false), (.int .i64 v52.x1, false), (.int .i64 v52.d1, false)]]⟩) (by simp only [go_sem, c53_1, St53_1, h51, wh53, h54, reduceIte, Nat.reduceEqDiff, Nat.reduceAdd, Nat.reduceSub, Nat.reduceLT, Nat.reduceLeDiff, Nat.reduceMul, Int.reduceLT, Int.reduceLE, Int.reduceEq, Int.reduceNe, Int.reduceAdd, Int.reduceSub, Int.reduceNeg, Int.reduceMul]) (gc_over rfl rfl (by first | simp only [go_sem, St53_1, reduceIte, Nat.reduceEqDiff, Nat.reduceAdd, Nat.reduceSub, Nat.reduceLT, Nat.reduceLeDiff, Nat.reduceMul, Int.reduceLT, Int.reduceLE, Int.reduceEq, Int.reduceNe, Int.reduceAdd, Int.reduceSub, Int.reduceNeg, Int.reduceMul] | rfl) (by first | simp only [go_sem, St53_1, reduceIte, Nat.reduceEqDiff, Nat.reduceAdd, Nat.reduceSub, Nat.reduceLT, Nat.reduceLeDiff, Nat.reduceMul, Int.reduceLT, Int.reduceLE, Int.reduceEq, Int.reduceNe, Int.reduceAdd, Int.reduceSub, Int.reduceNeg, Int.reduceMul] | rfl))
  · cases h.symm
    exact stepO_out (by simp only [go_sem, c53_1, St53_1, h51, Ex53_1, reduceIte, Nat.reduceEqDiff, Nat.reduceAdd, Nat.reduceSub, Nat.reduceLT, Nat.reduceLeDiff, Nat.reduceMul, Int.reduceLT, Int.reduceLE, Int.reduceEq, Int.reduceNe, Int.reduceAdd, Int.reduceSub, Int.reduceNeg, Int.reduceMul])
theorem l53_1 (a0 : Int) (a1 : Int) (a2 : Int) (a3 : Most) (s0 : Int) {s : Int} {d} (h : itO (s53_1 a0 a1 a2 a3 s0) s = some d) : X pr (.loop c53_1) (St53_1 a0 a1 a2 a3 s0 s) = some (Ex53_1 a0 a1 a2 a3 s0 d) := X_itO (b53_1 a0 a1 a2 a3 s0) (fun d => by rcases d with d|d <;> (intro hh; cases hh)) h
noncomputable def s53_0 (a0 : Int) (a1 : Int) (a2 : Int) (a3 : Most) (s0 : Int) : Option (Int ⊕ ((Int × Int × Int × Int × Int × Int × Int × Int) ⊕ Int)) :=
  cond (decide (s0 ≤ a0))
   (obind (itO (s53_1 a0 a1 a2 a3 s0) 0) fun d56 => match d56 with
      | .inl d58 =>
        some (.inr (.inl (s0, d58.1, s0, d58.2.1, d58.2.2.1, d58.2.2.2.1, d58.2.2.2.2.1, d58.2.2.2.2.2)))
      | .inr d59 =>
        some (.inl (wrapF .i64 (s0 + 1))))
   (some (.inr (.inr (s0))))
def St53_0 (a0 : Int) (a1 : Int) (a2 : Int) (a3 : Most) (s0 : Int) : ASt := ⟨[(0, .int .i64 a0, false), (1, .int .i64 a1, false), (2, .int .i64 a2, false), (7, .ptr 0 0, false), (8, .ptr 1 0, false), (10, .int .i64 s0, false)], [.cells [(.int .i64 a3.x0, false), (.int .i64 a3.d0, false), (.int .i64 a3.x1, false), (.int .i64 a3.d1, false)], .cells [(.int .i64 0, false), (.int .i64 0, false), (.int .i64 0, false)]]⟩
def Ex53_0 (a0 : Int) (a1 : Int) (a2 : Int) (a3 : Most) : (Int × Int × Int × Int × Int × Int × Int × Int) ⊕ Int → AExit × ASt
  | .inl d => (.ret, ⟨[(8, .ptr 1 0, false), (9, .int .i64 0, false)], [.cells [(.int .i64 a3.x0, false), (.int .i64 a3.d0, false), (.int .i64 a3.x1, false), (.int .i64 a3.d1, false)], .cells [(.int .i64 a0, false), (.int .i64 d.1, false), (.int .i64 d.2.1, false)], .cells [(.int .i64 a0, false), (.int .i64 d.2.2.1, false), (.int .i64 d.2.2.2.1, false)], .cells [(.int .i64 d.2.2.2.2.1, false), (.int .i64 d.2.2.2.2.2.1, false), (.int .i64 d.2.2.2.2.2.2.1, false), (.int .i64 d.2.2.2.2.2.2.2, false)]]⟩)
  | .inr (d) => (.exit 0, ⟨[(0, .int .i64 a0, false), (1, .int .i64 a1, false), (2, .int .i64 a2, false), (7, .ptr 0 0, false), (8, .ptr 1 0, false), (10, .int .i64 d, false), (16, .bool false, false)], [.cells [(.int .i64 a3.x0, false), (.int .i64 a3.d0, false), (.int .i64 a3.x1, false), (.int .i64 a3.d1, false)], .cells [(.int .i64 0, false), (.int .i64 0, false), (.int .i64 0, false)]]⟩)
theorem b53_0 (a0 : Int) (a1 : Int) (a2 : Int) (a3 : Most) (s0 : Int) (r) (h : s53_0 a0 a1 a2 a3 s0 = some r) : stepO pr c53_0 (St53_0 a0 a1 a2 a3) (Ex53_0 a0 a1 a2 a3) s0 r := by
  unfold s53_0 at h
  rcases cond_split h with ⟨h40, h⟩ | ⟨h40, h⟩
  · obtain ⟨d56, h57, h⟩ := obind_some h
    rcases d56 with d58 | d59
    · have wh57 : X pr (.loop c53_1) ⟨[(0, .int .i64 a0, false), (1, .int .i64 a1, false), (2, .int .i64 a2, false), (7, .ptr 0 0, false), (8, .ptr 1 0, false), (10, .int .i64 s0, false), (11, .int .i64 0, false)], [.cells [(.int .i64 a3.x0, false), (.int .i64 a3.d0, false), (.int .i64 a3.x1, false), (.int .i64 a3.d1, false)], .cells [(.int .i64 0, false), (.int .i64 0, false), (.int .i64 0, false)]]⟩ = some (.ret, ⟨[(8, .ptr 1 0, false), (9, .int .i64 0, false)], [.cells [(.int .i64 a3.x0, false), (.int .i64 a3.d0, false), (.int .i64 a3.x1, false), (.int .i64 a3.d1, false)], .cells [(.int .i64 a0, false), (.int .i64 s0, false), (.int .i64 d58.1, false)], .cells [(.int .i64 a0, false), (.int .i64 s0, false), (.int .i64 d58.2.1, false)], .cells [(.int .i64 d58.2.2.1, false), (.int .i64 d58.2.2.2.1, false), (.int .i64 d58.2.2.2.2.1, false), (.int .i64 d58.2.2.2.2.2, false)]]⟩) := l53_1 a0 a1 a2 a3 s0 h57
      cases h.symm
      exact stepO_out (by simp only [go_sem, c53_0, St53_0, h40, wh57, Ex53_0, reduceIte, Nat.reduceEqDiff, Nat.reduceAdd, Nat.reduceSub, Nat.reduceLT, Nat.reduceLeDiff, Nat.reduceMul, Int.reduceLT, Int.reduceLE, Int.reduceEq, Int.reduceNe, Int.reduceAdd, Int.reduceSub, Int.reduceNeg, Int.reduceMul])
    · have wh57 : X pr (.loop c53_1) ⟨[(0, .int .i64 a0, false), (1, .int .i64 a1, false), (2, .int .i64 a2, false), (7, .ptr 0 0, false), (8, .ptr 1 0, false), (10, .int .i64 s0, false), (11, .int .i64 0, false)], [.cells [(.int .i64 a3.x0, false), (.int .i64 a3.d0, false), (.int .i64 a3.x1, false), (.int .i64 a3.d1, false)], .cells [(.int .i64 0, false), (.int .i64 0, false), (.int .i64 0, false)]]⟩ = some (.exit 2, ⟨[(0, .int .i64 a0, false), (1, .int .i64 a1, false), (2, .int .i64 a2, false), (7, .ptr 0 0, false), (8, .ptr 1 0, false), (10, .int .i64 s0, false), (11, .int .i64 d59, false), (21, .bool false, false)], [.cells [(.int .i64 a3.x0, false), (.int .i64 a3.d0, false), (.int .i64 a3.x1, false), (.int .i64 a3.d1, false)], .cells [(.int .i64 0, false), (.int .i64 0, false), (.int .i64 0, false)]]⟩) := l53_1 a0 a1 a2 a3 s0 h57
      cases h.symm
      exact stepO_in (st' := ⟨[(0, .int .i64 a0, false), (1, .int .i64 a1, false), (2, .int .i64 a2, false), (7, .ptr 0 0, false), (8, .ptr 1 0, false), (10, .int .i64 (wrapF .i64 (s0 + 1)), false)], [.cells [(.int .i64 a3.x0, false), (.int .i64 a3.d0, false), (.int .i64 a3.x1, false), (.int .i64 a3.d1, false)], .cells [(.int .i64 0, false), (.int .i64 0, false), (.int .i64 0, false)]]⟩) (by simp only [go_sem, c53_0, St53_0, h40, wh57, reduceIte, Nat.reduceEqDiff, Nat.reduceAdd, Nat.reduceSub, Nat.reduceLT, Nat.reduceLeDiff, Nat.reduceMul, Int.reduceLT, Int.reduceLE, Int.reduceEq, Int.reduceNe, Int.reduceAdd, Int.reduceSub, Int.reduceNeg, Int.reduceMul]) (gc_same (Nat.le_refl _))
  · cases h.symm
    exact stepO_out (by simp only [go_sem, c53_0, St53_0, h40, Ex53_0, reduceIte, Nat.reduceEqDiff, Nat.reduceAdd, Nat.reduceSub, Nat.reduceLT, Nat.reduceLeDiff, Nat.reduceMul, Int.reduceLT, Int.reduceLE, Int.reduceEq, Int.reduceNe, Int.reduceAdd, Int.reduceSub, Int.reduceNeg, Int.reduceMul])
theorem l53_0 (a0 : Int) (a1 : Int) (a2 : Int) (a3 : Most) {s : Int} {d} (h : itO (s53_0 a0 a1 a2 a3) s = some d) : X pr (.loop c53_0) (St53_0 a0 a1 a2 a3 s) = some (Ex53_0 a0 a1 a2 a3 d) := X_itO (b53_0 a0 a1 a2 a3) (fun d => by rcases d with d|d <;> (intro hh; cases hh)) h
noncomputable def f53 (a0 : Int) (a1 : Int) (a2 : Int) (a3 : Most) : Option (GPlan × Int) :=
  obind (itO (s53_0 a0 a1 a2 a3) 1) fun d60 => match d60 with
    | .inl d62 =>
      some (⟨a0, d62.1, d62.2.1⟩, 0)
    | .inr d63 =>
      some (⟨0, 0, 0⟩, 24)
theorem W53 {a0 : Int} {a1 : Int} {a2 : Int} {a3 : Most} {r} (h : f53 a0 a1 a2 a3 = some r) : callIso pr (X pr) 53 [.int .i64 a0, .int .i64 a1, .int .i64 a2, .agg [.int .i64 a3.x0, .int .i64 a3.d0, .int .i64 a3.x1, .int .i64 a3.d1]] = some (.tup [.agg [.int .i64 r.1.lot, .int .i64 r.1.sample, .int .i64 r.1.accept], .int .i64 r.2], false) := by
  unfold f53 at h
  obtain ⟨d60, h61, h⟩ := obind_some h
  rcases d60 with d62 | d63
  · have wh61 : X pr (.loop c53_0) ⟨[(0, .int .i64 a0, false), (1, .int .i64 a1, false), (2, .int .i64 a2, false), (7, .ptr 0 0, false), (8, .ptr 1 0, false), (10, .int .i64 1, false)], [.cells [(.int .i64 a3.x0, false), (.int .i64 a3.d0, false), (.int .i64 a3.x1, false), (.int .i64 a3.d1, false)], .cells [(.int .i64 0, false), (.int .i64 0, false), (.int .i64 0, false)]]⟩ = some (.ret, ⟨[(8, .ptr 1 0, false), (9, .int .i64 0, false)], [.cells [(.int .i64 a3.x0, false), (.int .i64 a3.d0, false), (.int .i64 a3.x1, false), (.int .i64 a3.d1, false)], .cells [(.int .i64 a0, false), (.int .i64 d62.1, false), (.int .i64 d62.2.1, false)], .cells [(.int .i64 a0, false), (.int .i64 d62.2.2.1, false), (.int .i64 d62.2.2.2.1, false)], .cells [(.int .i64 d62.2.2.2.2.1, false), (.int .i64 d62.2.2.2.2.2.1, false), (.int .i64 d62.2.2.2.2.2.2.1, false), (.int .i64 d62.2.2.2.2.2.2.2, false)]]⟩) := l53_0 a0 a1 a2 a3 h61
    have hr : (⟨a0, d62.1, d62.2.1⟩, 0) = r := Option.some.inj h
    subst hr
    have this : ∃ hh, callFn pr (X pr) 53 [.int .i64 a0, .int .i64 a1, .int .i64 a2, .agg [.int .i64 a3.x0, .int .i64 a3.d0, .int .i64 a3.x1, .int .i64 a3.d1]] [] = some (.tup [.agg [.int .i64 a0, .int .i64 d62.1, .int .i64 d62.2.1], .int .i64 0], false, hh) := by
      rw [callFn_at (show pr.fns 53 = some c53 from rfl) (by simp)]
      simp only [go_sem, c53, wh61, reduceIte, Nat.reduceEqDiff, Nat.reduceAdd, Nat.reduceSub, Nat.reduceLT, Nat.reduceLeDiff, Nat.reduceMul, Int.reduceLT, Int.reduceLE, Int.reduceEq, Int.reduceNe, Int.reduceAdd, Int.reduceSub, Int.reduceNeg, Int.reduceMul]
      exact ⟨_, rfl⟩
    obtain ⟨hh, this⟩ := this
    exact callIso_of rfl this (by simp only [go_sem, reduceIte, Nat.reduceEqDiff, Nat.reduceAdd, Nat.reduceSub, Nat.reduceLT, Nat.reduceLeDiff, Nat.reduceMul, Int.reduceLT, Int.reduceLE, Int.reduceEq, Int.reduceNe, Int.reduceAdd, Int.reduceSub, Int.reduceNeg, Int.reduceMul]) (by simp only [go_sem, reduceIte, Nat.reduceEqDiff, Nat.reduceAdd, Nat.reduceSub, Nat.reduceLT, Nat.reduceLeDiff, Nat.reduceMul, Int.reduceLT, Int.reduceLE, Int.reduceEq, Int.reduceNe, Int.reduceAdd, Int.reduceSub, Int.reduceNeg, Int.reduceMul])
  · have wh61 : X pr (.loop c53_0) ⟨[(0, .int .i64 a0, false), (1, .int .i64 a1, false), (2, .int .i64 a2, false), (7, .ptr 0 0, false), (8, .ptr 1 0, false), (10, .int .i64 1, false)], [.cells [(.int .i64 a3.x0, false), (.int .i64 a3.d0, false), (.int .i64 a3.x1, false), (.int .i64 a3.d1, false)], .cells [(.int .i64 0, false), (.int .i64 0, false), (.int .i64 0, false)]]⟩ = some (.exit 0, ⟨[(0, .int .i64 a0, false), (1, .int .i64 a1, false), (2, .int .i64 a2, false), (7, .ptr 0 0, false), (8, .ptr 1 0, false), (10, .int .i64 d63, false), (16, .bool false, false)], [.cells [(.int .i64 a3.x0, false), (.int .i64 a3.d0, false), (.int .i64 a3.x1, false), (.int .i64 a3.d1, false)], .cells [(.int .i64 0, false), (.int .i64 0, false), (.int .i64 0, false)]]⟩) := l53_0 a0 a1 a2 a3 h61
    have hr : (⟨0, 0, 0⟩, 24) = r := Option.some.inj h
    subst hr
    have this : ∃ hh, callFn pr (X pr) 53 [.int .i64 a0, .int .i64 a1, .int .i64 a2, .agg [.int .i64 a3.x0, .int .i64 a3.d0, .int .i64 a3.x1, .int .i64 a3.d1]] [] = some (.tup [.agg [.int .i64 0, .int .i64 0, .int .i64 0], .int .i64 24], false, hh) := by
      rw [callFn_at (show pr.fns 53 = some c53 from rfl) (by simp)]
      simp only [go_sem, c53, wh61, reduceIte, Nat.reduceEqDiff, Nat.reduceAdd, Nat.reduceSub, Nat.reduceLT, Nat.reduceLeDiff, Nat.reduceMul, Int.reduceLT, Int.reduceLE, Int.reduceEq, Int.reduceNe, Int.reduceAdd, Int.reduceSub, Int.reduceNeg, Int.reduceMul]
      exact ⟨_, rfl⟩
    obtain ⟨hh, this⟩ := this
    exact callIso_of rfl this (by simp only [go_sem, reduceIte, Nat.reduceEqDiff, Nat.reduceAdd, Nat.reduceSub, Nat.reduceLT, Nat.reduceLeDiff, Nat.reduceMul, Int.reduceLT, Int.reduceLE, Int.reduceEq, Int.reduceNe, Int.reduceAdd, Int.reduceSub, Int.reduceNeg, Int.reduceMul]) (by simp only [go_sem, reduceIte, Nat.reduceEqDiff, Nat.reduceAdd, Nat.reduceSub, Nat.reduceLT, Nat.reduceLeDiff, Nat.reduceMul, Int.reduceLT, Int.reduceLE, Int.reduceEq, Int.reduceNe, Int.reduceAdd, Int.reduceSub, Int.reduceNeg, Int.reduceMul])
noncomputable def f6 (a0 : Int) (a1 : GRat) (a2 : Most) : Option Bool :=
  obind (E14) fun v1 =>
  cond v1
   (cond (decide (12 < a0))
     (cond (decide (a0 ≤ 30))
       (some v1)
       (obind (f51 a0 a1.num a1.den a2) fun v6 =>
        obind (E23 a0 1 30) fun v8 =>
        obind (E46 a0 a1.num a1.den) fun v10 =>
        obind (E52 (⟨a2.x0, a2.d0⟩)) fun v12 =>
        obind (E52 (⟨a2.x1, a2.d1⟩)) fun v14 =>
        obind (E21 (some [v8, v10, v12, v14])) fun v16 =>
        cond (decide (v16 = 0))
         (obind (f53 a0 a1.num a1.den a2) fun v19 =>
          cond (decide (v6.1.lot = v19.1.lot) && decide (v6.1.sample = v19.1.sample) && decide (v6.1.accept = v19.1.accept))
           (some (decide (v6.2 = v19.2)))
           (some false))
         (cond (decide (v6.1.lot = 0) && decide (v6.1.sample = 0) && decide (v6.1.accept = 0))
           (some (decide (v6.2 = v16)))
           (some false))))
     (obind (f51 a0 a1.num a1.den a2) fun v23 =>
      obind (E23 a0 1 30) fun v25 =>
      obind (E46 a0 a1.num a1.den) fun v27 =>
      obind (E52 (⟨a2.x0, a2.d0⟩)) fun v29 =>
      obind (E52 (⟨a2.x1, a2.d1⟩)) fun v31 =>
      obind (E21 (some [v25, v27, v29, v31])) fun v33 =>
      cond (decide (v33 = 0))
       (obind (f53 a0 a1.num a1.den a2) fun v36 =>
        cond (decide (v23.1.lot = v36.1.lot) && decide (v23.1.sample = v36.1.sample) && decide (v23.1.accept = v36.1.accept))
         (some (decide (v23.2 = v36.2)))
         (some false))
       (cond (decide (v23.1.lot = 0) && decide (v23.1.sample = 0) && decide (v23.1.accept = 0))
         (some (decide (v23.2 = v33)))
         (some false))))
   (some v1)
theorem W6 {a0 : Int} {a1 : GRat} {a2 : Most} {r} (h : f6 a0 a1 a2 = some r) : callIso pr (X pr) 6 [.int .i64 a0, .agg [.int .i64 a1.num, .int .i64 a1.den], .agg [.int .i64 a2.x0, .int .i64 a2.d0, .int .i64 a2.x1, .int .i64 a2.d1]] = some (.bool r, false) := by
  unfold f6 at h
  obtain ⟨v1, h2, h⟩ := obind_some h
  have wh2 : callIso pr (X pr) 14 [] = some (.bool v1, false) := WE14 h2
  rcases cond_split h with ⟨h3, h⟩ | ⟨h3, h⟩
  · rcases cond_split h with ⟨h4, h⟩ | ⟨h4, h⟩
    · rcases cond_split h with ⟨h5, h⟩ | ⟨h5, h⟩
      · have hr : v1 = r := Option.some.inj h
        subst hr
        have this : ∃ hh, callFn pr (X pr) 6 [.int .i64 a0, .agg [.int .i64 a1.num, .int .i64 a1.den], .agg [.int .i64 a2.x0, .int .i64 a2.d0, .int .i64 a2.x1, .int .i64 a2.d1]] [] = some (.bool v1, false, hh) := by
          rw [callFn_at (show pr.fns 6 = some c6 from rfl) (by simp)]
          simp only [go_sem, c6, wh2, h3, h4, h5, reduceIte, Nat.reduceEqDiff, Nat.reduceAdd, Nat.reduceSub, Nat.reduceLT, Nat.reduceLeDiff, Nat.reduceMul, Int.reduceLT, Int.reduceLE, Int.reduceEq, Int.reduceNe, Int.reduceAdd, Int.reduceSub, Int.reduceNeg, Int.reduceMul]
          exact ⟨_, rfl⟩
        obtain ⟨hh, this⟩ := this
        exact callIso_of rfl this (by simp only [go_sem, reduceIte, Nat.reduceEqDiff, Nat.reduceAdd, Nat.reduceSub, Nat.reduceLT, Nat.reduceLeDiff, Nat.reduceMul, Int.reduceLT, Int.reduceLE, Int.reduceEq, Int.reduceNe, Int.reduceAdd, Int.reduceSub, Int.reduceNeg, Int.reduceMul]) (by simp only [go_sem, reduceIte, Nat.reduceEqDiff, Nat.reduceAdd, Nat.reduceSub, Nat.reduceLT, Nat.reduceLeDiff, Nat.reduceMul, Int.reduceLT, Int.reduceLE, Int.reduceEq, Int.reduceNe, Int.reduceAdd, Int.reduceSub, Int.reduceNeg, Int.reduceMul])
      · obtain ⟨v6, h7, h⟩ := obind_some h
        have wh7 : callIso pr (X pr) 51 [.int .i64 a0, .int .i64 a1.num, .int .i64 a1.den, .agg [.int .i64 a2.x0, .int .i64 a2.d0, .int .i64 a2.x1, .int .i64 a2.d1]] = some (.tup [.agg [.int .i64 v6.1.lot, .int .i64 v6.1.sample, .int .i64 v6.1.accept], .int .i64 v6.2], false) := W51 h7
        obtain ⟨v8, h9, h⟩ := obind_some h
        have wh9 : callIso pr (X pr) 23 [.int .i64 a0, .int .i64 1, .int .i64 30] = some (.int .i64 v8, false) := WE23 h9
        obtain ⟨v10, h11, h⟩ := obind_some h
        have wh11 : callIso pr (X pr) 46 [.int .i64 a0, .int .i64 a1.num, .int .i64 a1.den] = some (.int .i64 v10, false) := WE46 h11
        obtain ⟨v12, h13, h⟩ := obind_some h
        have wh13 : callIso pr (X pr) 52 [.agg [.int .i64 a2.x0, .int .i64 a2.d0]] = some (.int .i64 v12, false) := WE52 h13
        obtain ⟨v14, h15, h⟩ := obind_some h
        have wh15 : callIso pr (X pr) 52 [.agg [.int .i64 a2.x1, .int .i64 a2.d1]] = some (.int .i64 v14, false) := WE52 h15
        obtain ⟨v16, h17, h⟩ := obind_some h
        have wh17 : callIso pr (X pr) 21 [.list false 1 [.int .i64 v8, .int .i64 v10, .int .i64 v12, .int .i64 v14]] = some (.int .i64 v16, false) := WE21 h17
        rcases cond_split h with ⟨h18, h⟩ | ⟨h18, h⟩
        · obtain ⟨v19, h20, h⟩ := obind_some h
          have wh20 : callIso pr (X pr) 53 [.int .i64 a0, .int .i64 a1.num, .int .i64 a1.den, .agg [.int .i64 a2.x0, .int .i64 a2.d0, .int .i64 a2.x1, .int .i64 a2.d1]] = some (.tup [.agg [.int .i64 v19.1.lot, .int .i64 v19.1.sample, .int .i64 v19.1.accept], .int .i64 v19.2], false) := W53 h20
          rcases cond_split h with ⟨h21, h⟩ | ⟨h21, h⟩
          · have hr : decide (v6.2 = v19.2) = r := Option.some.inj h
            subst hr
            have this : ∃ hh, callFn pr (X pr) 6 [.int .i64 a0, .agg [.int .i64 a1.num, .int .i64 a1.den], .agg [.int .i64 a2.x0, .int .i64 a2.d0, .int .i64 a2.x1, .int .i64 a2.d1]] [] = some (.bool (decide (v6.2 = v19.2)), false, hh) := by
              rw [callFn_at (show pr.fns 6 = some c6 from rfl) (by simp)]
              simp only [go_sem, c6, wh2, h3, h4, h5, wh7, wh9, wh11, wh13, wh15, wh17, h18, wh20, h21, reduceIte, Nat.reduceEqDiff, Nat.reduceAdd, Nat.reduceSub, Nat.reduceLT, Nat.reduceLeDiff, Nat.reduceMul, Int.reduceLT, Int.reduceLE, Int.reduceEq, Int.reduceNe, Int.reduceAdd, Int.reduceSub, Int.reduceNeg, Int.reduceMul]
              exact ⟨_, rfl⟩
            obtain ⟨hh, this⟩ := this
            exact callIso_of rfl this (by simp only [go_sem, reduceIte, Nat.reduceEqDiff, Nat.reduceAdd, Nat.reduceSub, Nat.reduceLT, Nat.reduceLeDiff, Nat.reduceMul, Int.reduceLT, Int.reduceLE, Int.reduceEq, Int.reduceNe, Int.reduceAdd, Int.reduceSub, Int.reduceNeg, Int.reduceMul]) (by simp only [go_sem, reduceIte, Nat.reduceEqDiff, Nat.reduceAdd, Nat.reduceSub, Nat.reduceLT, Nat.reduceLeDiff, Nat.reduceMul, Int.reduceLT, Int.reduceLE, Int.reduceEq, Int.reduceNe, Int.reduceAdd, Int.reduceSub, Int.reduceNeg, Int.reduceMul])
          · have hr : false = r := Option.some.inj h
            subst hr
            have this : ∃ hh, callFn pr (X pr) 6 [.int .i64 a0, .agg [.int .i64 a1.num, .int .i64 a1.den], .agg [.int .i64 a2.x0, .int .i64 a2.d0, .int .i64 a2.x1, .int .i64 a2.d1]] [] = some (.bool false, false, hh) := by
              rw [callFn_at (show pr.fns 6 = some c6 from rfl) (by simp)]
              simp only [go_sem, c6, wh2, h3, h4, h5, wh7, wh9, wh11, wh13, wh15, wh17, h18, wh20, h21, reduceIte, Nat.reduceEqDiff, Nat.reduceAdd, Nat.reduceSub, Nat.reduceLT, Nat.reduceLeDiff, Nat.reduceMul, Int.reduceLT, Int.reduceLE, Int.reduceEq, Int.reduceNe, Int.reduceAdd, Int.reduceSub, Int.reduceNeg, Int.reduceMul]
              exact ⟨_, rfl⟩
            obtain ⟨hh, this⟩ := this
            exact callIso_of rfl this (by simp only [go_sem, reduceIte, Nat.reduceEqDiff, Nat.reduceAdd, Nat.reduceSub, Nat.reduceLT, Nat.reduceLeDiff, Nat.reduceMul, Int.reduceLT, Int.reduceLE, Int.reduceEq, Int.reduceNe, Int.reduceAdd, Int.reduceSub, Int.reduceNeg, Int.reduceMul]) (by simp only [go_sem, reduceIte, Nat.reduceEqDiff, Nat.reduceAdd, Nat.reduceSub, Nat.reduceLT, Nat.reduceLeDiff, Nat.reduceMul, Int.reduceLT, Int.reduceLE, Int.reduceEq, Int.reduceNe, Int.reduceAdd, Int.reduceSub, Int.reduceNeg, Int.reduceMul])
        · rcases cond_split h with ⟨h22, h⟩ | ⟨h22, h⟩
          · have hr : decide (v6.2 = v16) = r := Option.some.inj h
            subst hr
            have this : ∃ hh, callFn pr (X pr) 6 [.int .i64 a0, .agg [.int .i64 a1.num, .int .i64 a1.den], .agg [.int .i64 a2.x0, .int .i64 a2.d0, .int .i64 a2.x1, .int .i64 a2.d1]] [] = some (.bool (decide (v6.2 = v16)), false, hh) := by
              rw [callFn_at (show pr.fns 6 = some c6 from rfl) (by simp)]
              simp only [go_sem, c6, wh2, h3, h4, h5, wh7, wh9, wh11, wh13, wh15, wh17, h18, h22, reduceIte, Nat.reduceEqDiff, Nat.reduceAdd, Nat.reduceSub, Nat.reduceLT, Nat.reduceLeDiff, Nat.reduceMul, Int.reduceLT, Int.reduceLE, Int.reduceEq, Int.reduceNe, Int.reduceAdd, Int.reduceSub, Int.reduceNeg, Int.reduceMul]
              exact ⟨_, rfl⟩
            obtain ⟨hh, this⟩ := this
            exact callIso_of rfl this (by simp only [go_sem, reduceIte, Nat.reduceEqDiff, Nat.reduceAdd, Nat.reduceSub, Nat.reduceLT, Nat.reduceLeDiff, Nat.reduceMul, Int.reduceLT, Int.reduceLE, Int.reduceEq, Int.reduceNe, Int.reduceAdd, Int.reduceSub, Int.reduceNeg, Int.reduceMul]) (by simp only [go_sem, reduceIte, Nat.reduceEqDiff, Nat.reduceAdd, Nat.reduceSub, Nat.reduceLT, Nat.reduceLeDiff, Nat.reduceMul, Int.reduceLT, Int.reduceLE, Int.reduceEq, Int.reduceNe, Int.reduceAdd, Int.reduceSub, Int.reduceNeg, Int.reduceMul])
          · have hr : false = r := Option.some.inj h
            subst hr
            have this : ∃ hh, callFn pr (X pr) 6 [.int .i64 a0, .agg [.int .i64 a1.num, .int .i64 a1.den], .agg [.int .i64 a2.x0, .int .i64 a2.d0, .int .i64 a2.x1, .int .i64 a2.d1]] [] = some (.bool false, false, hh) := by
              rw [callFn_at (show pr.fns 6 = some c6 from rfl) (by simp)]
              simp only [go_sem, c6, wh2, h3, h4, h5, wh7, wh9, wh11, wh13, wh15, wh17, h18, h22, reduceIte, Nat.reduceEqDiff, Nat.reduceAdd, Nat.reduceSub, Nat.reduceLT, Nat.reduceLeDiff, Nat.reduceMul, Int.reduceLT, Int.reduceLE, Int.reduceEq, Int.reduceNe, Int.reduceAdd, Int.reduceSub, Int.reduceNeg, Int.reduceMul]
              exact ⟨_, rfl⟩
            obtain ⟨hh, this⟩ := this
            exact callIso_of rfl this (by simp only [go_sem, reduceIte, Nat.reduceEqDiff, Nat.reduceAdd, Nat.reduceSub, Nat.reduceLT, Nat.reduceLeDiff, Nat.reduceMul, Int.reduceLT, Int.reduceLE, Int.reduceEq, Int.reduceNe, Int.reduceAdd, Int.reduceSub, Int.reduceNeg, Int.reduceMul]) (by simp only [go_sem, reduceIte, Nat.reduceEqDiff, Nat.reduceAdd, Nat.reduceSub, Nat.reduceLT, Nat.reduceLeDiff, Nat.reduceMul, Int.reduceLT, Int.reduceLE, Int.reduceEq, Int.reduceNe, Int.reduceAdd, Int.reduceSub, Int.reduceNeg, Int.reduceMul])
    · obtain ⟨v23, h24, h⟩ := obind_some h
      have wh24 : callIso pr (X pr) 51 [.int .i64 a0, .int .i64 a1.num, .int .i64 a1.den, .agg [.int .i64 a2.x0, .int .i64 a2.d0, .int .i64 a2.x1, .int .i64 a2.d1]] = some (.tup [.agg [.int .i64 v23.1.lot, .int .i64 v23.1.sample, .int .i64 v23.1.accept], .int .i64 v23.2], false) := W51 h24
      obtain ⟨v25, h26, h⟩ := obind_some h
      have wh26 : callIso pr (X pr) 23 [.int .i64 a0, .int .i64 1, .int .i64 30] = some (.int .i64 v25, false) := WE23 h26
      obtain ⟨v27, h28, h⟩ := obind_some h
      have wh28 : callIso pr (X pr) 46 [.int .i64 a0, .int .i64 a1.num, .int .i64 a1.den] = some (.int .i64 v27, false) := WE46 h28
      obtain ⟨v29, h30, h⟩ := obind_some h
      have wh30 : callIso pr (X pr) 52 [.agg [.int .i64 a2.x0, .int .i64 a2.d0]] = some (.int .i64 v29, false) := WE52 h30
      obtain ⟨v31, h32, h⟩ := obind_some h
      have wh32 : callIso pr (X pr) 52 [.agg [.int .i64 a2.x1, .int .i64 a2.d1]] = some (.int .i64 v31, false) := WE52 h32
      obtain ⟨v33, h34, h⟩ := obind_some h
      have wh34 : callIso pr (X pr) 21 [.list false 1 [.int .i64 v25, .int .i64 v27, .int .i64 v29, .int .i64 v31]] = some (.int .i64 v33, false) := WE21 h34
      rcases cond_split h with ⟨h35, h⟩ | ⟨h35, h⟩
      · obtain ⟨v36, h37, h⟩ := obind_some h
        have wh37 : callIso pr (X pr) 53 [.int .i64 a0, .int .i64 a1.num, .int .i64 a1.den, .agg [.int .i64 a2.x0, .int .i64 a2.d0, .int .i64 a2.x1, .int .i64 a2.d1]] = some (.tup [.agg [.int .i64 v36.1.lot, .int .i64 v36.1.sample, .int .i64 v36.1.accept], .int .i64 v36.2], false) := W53 h37
        rcases cond_split h with ⟨h38, h⟩ | ⟨h38, h⟩
        · have hr : decide (v23.2 = v36.2) = r := Option.some.inj h
          subst hr
          have this : ∃ hh, callFn pr (X pr) 6 [.int .i64 a0, .agg [.int .i64 a1.num, .int .i64 a1.den], .agg [.int .i64 a2.x0, .int .i64 a2.d0, .int .i64 a2.x1, .int .i64 a2.d1]] [] = some (.bool (decide (v23.2 = v36.2)), false, hh) := by
            rw [callFn_at (show pr.fns 6 = some c6 from rfl) (by simp)]
            simp only [go_sem, c6, wh2, h3, h4, wh24, wh26, wh28, wh30, wh32, wh34, h35, wh37, h38, reduceIte, Nat.reduceEqDiff, Nat.reduceAdd, Nat.reduceSub, Nat.reduceLT, Nat.reduceLeDiff, Nat.reduceMul, Int.reduceLT, Int.reduceLE, Int.reduceEq, Int.reduceNe, Int.reduceAdd, Int.reduceSub, Int.reduceNeg, Int.reduceMul]
            exact ⟨_, rfl⟩
          obtain ⟨hh, this⟩ := this
          exact callIso_of rfl this (by simp only [go_sem, reduceIte, Nat.reduceEqDiff, Nat.reduceAdd, Nat.reduceSub, Nat.reduceLT, Nat.reduceLeDiff, Nat.reduceMul, Int.reduceLT, Int.reduceLE, Int.reduceEq, Int.reduceNe, Int.reduceAdd, Int.reduceSub, Int.reduceNeg, Int.reduceMul]) (by simp only [go_sem, reduceIte, Nat.reduceEqDiff, Nat.reduceAdd, Nat.reduceSub, Nat.reduceLT, Nat.reduceLeDiff, Nat.reduceMul, Int.reduceLT, Int.reduceLE, Int.reduceEq, Int.reduceNe, Int.reduceAdd, Int.reduceSub, Int.reduceNeg, Int.reduceMul])
        · have hr : false = r := Option.some.inj h
          subst hr
          have this : ∃ hh, callFn pr (X pr) 6 [.int .i64 a0, .agg [.int .i64 a1.num, .int .i64 a1.den], .agg [.int .i64 a2.x0, .int .i64 a2.d0, .int .i64 a2.x1, .int .i64 a2.d1]] [] = some (.bool false, false, hh) := by
            rw [callFn_at (show pr.fns 6 = some c6 from rfl) (by simp)]
            simp only [go_sem, c6, wh2, h3, h4, wh24, wh26, wh28, wh30, wh32, wh34, h35, wh37, h38, reduceIte, Nat.reduceEqDiff, Nat.reduceAdd, Nat.reduceSub, Nat.reduceLT, Nat.reduceLeDiff, Nat.reduceMul, Int.reduceLT, Int.reduceLE, Int.reduceEq, Int.reduceNe, Int.reduceAdd, Int.reduceSub, Int.reduceNeg, Int.reduceMul]
            exact ⟨_, rfl⟩
          obtain ⟨hh, this⟩ := this
          exact callIso_of rfl this (by simp only [go_sem, reduceIte, Nat.reduceEqDiff, Nat.reduceAdd, Nat.reduceSub, Nat.reduceLT, Nat.reduceLeDiff, Nat.reduceMul, Int.reduceLT, Int.reduceLE, Int.reduceEq, Int.reduceNe, Int.reduceAdd, Int.reduceSub, Int.reduceNeg, Int.reduceMul]) (by simp only [go_sem, reduceIte, Nat.reduceEqDiff, Nat.reduceAdd, Nat.reduceSub, Nat.reduceLT, Nat.reduceLeDiff, Nat.reduceMul, Int.reduceLT, Int.reduceLE, Int.reduceEq, Int.reduceNe, Int.reduceAdd, Int.reduceSub, Int.reduceNeg, Int.reduceMul])
      · rcases cond_split h with ⟨h39, h⟩ | ⟨h39, h⟩
        · have hr : decide (v23.2 = v33) = r := Option.some.inj h
          subst hr
          have this : ∃ hh, callFn pr (X pr) 6 [.int .i64 a0, .agg [.int .i64 a1.num, .int .i64 a1.den], .agg [.int .i64 a2.x0, .int .i64 a2.d0, .int .i64 a2.x1, .int .i64 a2.d1]] [] = some (.bool (decide (v23.2 = v33)), false, hh) := by
            rw [callFn_at (show pr.fns 6 = some c6 from rfl) (by simp)]
            simp only [go_sem, c6, wh2, h3, h4, wh24, wh26, wh28, wh30, wh32, wh34, h35, h39, reduceIte, Nat.reduceEqDiff, Nat.reduceAdd, Nat.reduceSub, Nat.reduceLT, Nat.reduceLeDiff, Nat.reduceMul, Int.reduceLT, Int.reduceLE, Int.reduceEq, Int.reduceNe, Int.reduceAdd, Int.reduceSub, Int.reduceNeg, Int.reduceMul]
            exact ⟨_, rfl⟩
          obtain ⟨hh, this⟩ := this
          exact callIso_of rfl this (by simp only [go_sem, reduceIte, Nat.reduceEqDiff, Nat.reduceAdd, Nat.reduceSub, Nat.reduceLT, Nat.reduceLeDiff, Nat.reduceMul, Int.reduceLT, Int.reduceLE, Int.reduceEq, Int.reduceNe, Int.reduceAdd, Int.reduceSub, Int.reduceNeg, Int.reduceMul]) (by simp only [go_sem, reduceIte, Nat.reduceEqDiff, Nat.reduceAdd, Nat.reduceSub, Nat.reduceLT, Nat.reduceLeDiff, Nat.reduceMul, Int.reduceLT, Int.reduceLE, Int.reduceEq, Int.reduceNe, Int.reduceAdd, Int.reduceSub, Int.reduceNeg, Int.reduceMul])
        · have hr : false = r := Option.some.inj h
          subst hr
          have this : ∃ hh, callFn pr (X pr) 6 [.int .i64 a0, .agg [.int .i64 a1.num, .int .i64 a1.den], .agg [.int .i64 a2.x0, .int .i64 a2.d0, .int .i64 a2.x1, .int .i64 a2.d1]] [] = some (.bool false, false, hh) := by
            rw [callFn_at (show pr.fns 6 = some c6 from rfl) (by simp)]
            simp only [go_sem, c6, wh2, h3, h4, wh24, wh26, wh28, wh30, wh32, wh34, h35, h39, reduceIte, Nat.reduceEqDiff, Nat.reduceAdd, Nat.reduceSub, Nat.reduceLT, Nat.reduceLeDiff, Nat.reduceMul, Int.reduceLT, Int.reduceLE, Int.reduceEq, Int.reduceNe, Int.reduceAdd, Int.reduceSub, Int.reduceNeg, Int.reduceMul]
            exact ⟨_, rfl⟩
          obtain ⟨hh, this⟩ := this
          exact callIso_of rfl this (by simp only [go_sem, reduceIte, Nat.reduceEqDiff, Nat.reduceAdd, Nat.reduceSub, Nat.reduceLT, Nat.reduceLeDiff, Nat.reduceMul, Int.reduceLT, Int.reduceLE, Int.reduceEq, Int.reduceNe, Int.reduceAdd, Int.reduceSub, Int.reduceNeg, Int.reduceMul]) (by simp only [go_sem, reduceIte, Nat.reduceEqDiff, Nat.reduceAdd, Nat.reduceSub, Nat.reduceLT, Nat.reduceLeDiff, Nat.reduceMul, Int.reduceLT, Int.reduceLE, Int.reduceEq, Int.reduceNe, Int.reduceAdd, Int.reduceSub, Int.reduceNeg, Int.reduceMul])
  · have hr : v1 = r := Option.some.inj h
    subst hr
    have this : ∃ hh, callFn pr (X pr) 6 [.int .i64 a0, .agg [.int .i64 a1.num, .int .i64 a1.den], .agg [.int .i64 a2.x0, .int .i64 a2.d0, .int .i64 a2.x1, .int .i64 a2.d1]] [] = some (.bool v1, false, hh) := by
      rw [callFn_at (show pr.fns 6 = some c6 from rfl) (by simp)]
      simp only [go_sem, c6, wh2, h3, reduceIte, Nat.reduceEqDiff, Nat.reduceAdd, Nat.reduceSub, Nat.reduceLT, Nat.reduceLeDiff, Nat.reduceMul, Int.reduceLT, Int.reduceLE, Int.reduceEq, Int.reduceNe, Int.reduceAdd, Int.reduceSub, Int.reduceNeg, Int.reduceMul]
      exact ⟨_, rfl⟩
    obtain ⟨hh, this⟩ := this
    exact callIso_of rfl this (by simp only [go_sem, reduceIte, Nat.reduceEqDiff, Nat.reduceAdd, Nat.reduceSub, Nat.reduceLT, Nat.reduceLeDiff, Nat.reduceMul, Int.reduceLT, Int.reduceLE, Int.reduceEq, Int.reduceNe, Int.reduceAdd, Int.reduceSub, Int.reduceNeg, Int.reduceMul]) (by simp only [go_sem, reduceIte, Nat.reduceEqDiff, Nat.reduceAdd, Nat.reduceSub, Nat.reduceLT, Nat.reduceLeDiff, Nat.reduceMul, Int.reduceLT, Int.reduceLE, Int.reduceEq, Int.reduceNe, Int.reduceAdd, Int.reduceSub, Int.reduceNeg, Int.reduceMul])
end Go.Z
