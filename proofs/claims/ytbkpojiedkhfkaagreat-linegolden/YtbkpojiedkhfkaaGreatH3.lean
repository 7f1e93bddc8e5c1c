/-
  LineGolden: functions that mirror the runs, and the runs (printed by walk.py).
-/
import Derived.Test.YtbkpojiedkhfkaaGreatH1
set_option linter.unusedVariables false
set_option linter.unusedSimpArgs false
set_option maxRecDepth 100000
set_option linter.unusedSimpArgs false
set_option linter.unusedVariables false
set_option maxHeartbeats 4000000
namespace Go.Z
open Go Go.Abs
noncomputable def s54_1 (a0 : Option (List GUnit)) (a1 : Int) (s0 : Int) (v46 : GUnit) (s1 : Int) : Option (Int ⊕ (Unit ⊕ Int)) :=
  cond (decide (s1 < ((v46.values.getD []).length : Int)))
   (obind (idxO (v46.values.getD []) s1) fun v59 =>
    cond (decide (a1 < v59))
     (some (.inr (.inl ())))
     (cond (decide (v59 < (wrapF .i64 (0 - a1))))
       (some (.inr (.inl ())))
       (some (.inl (wrapF .i64 (s1 + 1))))))
   (some (.inr (.inr (s1))))
def St54_1 (a0 : Option (List GUnit)) (a1 : Int) (s0 : Int) (v46 : GUnit) (s1 : Int) : ASt := ⟨[(1, .int .i64 a1, false), (9, sl 2 vunit a0, false), (10, .int .i64 ((a0.getD []).length : Int), false), (11, .int .i64 s0, false), (16, sl 1 vint v46.values, false), (17, .int .i64 ((v46.values.getD []).length : Int), false), (18, .int .i64 s1, false)], [.cells [(.str v46.serial, false), (sl 1 vint v46.values, false)]]⟩
def Ex54_1 (a0 : Option (List GUnit)) (a1 : Int) (s0 : Int) (v46 : GUnit) : Unit ⊕ Int → AExit × ASt
  | .inl d => (.ret, ⟨[(4, .bool false, false)], [.cells [(.str v46.serial, false), (sl 1 vint v46.values, false)]]⟩)
  | .inr (d) => (.exit 2, ⟨[(1, .int .i64 a1, false), (9, sl 2 vunit a0, false), (10, .int .i64 ((a0.getD []).length : Int), false), (11, .int .i64 s0, false), (16, sl 1 vint v46.values, false), (17, .int .i64 ((v46.values.getD []).length : Int), false), (18, .int .i64 d, false), (19, .bool false, false)], [.cells [(.str v46.serial, false), (sl 1 vint v46.values, false)]]⟩)
theorem b54_1 (a0 : Option (List GUnit)) (a1 : Int) (s0 : Int) (v46 : GUnit) (s1 : Int) (r) (h : s54_1 a0 a1 s0 v46 s1 = some r) : stepO pr c54_1 (St54_1 a0 a1 s0 v46) (Ex54_1 a0 a1 s0 v46) s1 r := by
  unfold s54_1 at h
  rcases cond_split h with ⟨h58, h⟩ | ⟨h58, h⟩
  · obtain ⟨v59, h60, h⟩ := obind_some h
    rcases cond_split h with ⟨h61, h⟩ | ⟨h61, h⟩
    · cases h.symm
      exact stepO_out (by simp only [go_sem, c54_1, St54_1, h58, idxR_O h60, h61, Ex54_1, reduceIte, Nat.reduceEqDiff, Nat.reduceAdd, Nat.reduceSub, Nat.reduceLT, Nat.reduceLeDiff, Nat.reduceMul, Int.reduceLT, Int.reduceLE, Int.reduceEq, Int.reduceNe, Int.reduceAdd, Int.reduceSub, Int.reduceNeg, Int.reduceMul])
    · rcases cond_split h with ⟨h62, h⟩ | ⟨h62, h⟩
      · cases h.symm
        exact stepO_out (by simp only [go_sem, c54_1, St54_1, h58, idxR_O h60, h61, h62, Ex54_1, reduceIte, Nat.reduceEqDiff, Nat.reduceAdd, Nat.reduceSub, Nat.reduceLT, Nat.reduceLeDiff, Nat.reduceMul, Int.reduceLT, Int.reduceLE, Int.reduceEq, Int.reduceNe, Int.reduceAdd, Int.reduceSub, Int.reduceNeg, Int.reduceMul])
      · cases h.symm
        exact stepO_in (st' := ⟨[(1, .int .i64 a1, false), (9, sl 2 vunit a0, false), (10, .int .i64 ((a0.getD []).length : Int), false), (11, .int .i64 s0, false), (16, sl 1 vint v46.values, false), (17, .int .i64 ((v46.values.getD []).length : Int), false), (18, .int .i64 (wrapF .i64 (s1 + 1)), false)], [.cells [(.str v46.serial, false), (sl 1 vint v46.values, false)]]⟩) (by simp only [go_sem, c54_1, St54_1, h58, idxR_O h60, h61, h62, reduceIte, Nat.reduceEqDiff, Nat.reduceAdd, Nat.reduceSub, Nat.reduceLT, Nat.reduceLeDiff, Nat.reduceMul, Int.reduceLT, Int.reduceLE, Int.reduceEq, Int.reduceNe, Int.reduceAdd, Int.reduceSub, Int.reduceNeg, Int.reduceMul]) (gc_same (Nat.le_refl _))
  · cases h.symm
    exact stepO_out (by simp only [go_sem, c54_1, St54_1, h58, Ex54_1, reduceIte, Nat.reduceEqDiff, Nat.reduceAdd, Nat.reduceSub, Nat.reduceLT, Nat.reduceLeDiff, Nat.reduceMul, Int.reduceLT, Int.reduceLE, Int.reduceEq, Int.reduceNe, Int.reduceAdd, Int.reduceSub, Int.reduceNeg, Int.reduceMul])
theorem l54_1 (a0 : Option (List GUnit)) (a1 : Int) (s0 : Int) (v46 : GUnit) {s : Int} {d} (h : itO (s54_1 a0 a1 s0 v46) s = some d) : X pr (.loop c54_1) (St54_1 a0 a1 s0 v46 s) = some (Ex54_1 a0 a1 s0 v46 d) := X_itO (b54_1 a0 a1 s0 v46) (fun d => by rcases d with d|d <;> (intro hh; cases hh)) h
noncomputable def s54_0 (a0 : Option (List GUnit)) (a1 : Int) (s0 : Int) : Option (Int ⊕ (((List UInt8) × (Option (List Int))) ⊕ Int)) :=
  cond (decide (s0 < ((a0.getD []).length : Int)))
   (obind (idxO (a0.getD []) s0) fun v46 =>
    obind (itO (s54_1 a0 a1 s0 v46) 0) fun d63 => match d63 with
      | .inl d65 =>
        some (.inr (.inl (v46.serial, v46.values)))
      | .inr d66 =>
        some (.inl (wrapF .i64 (s0 + 1))))
   (some (.inr (.inr (s0))))
def St54_0 (a0 : Option (List GUnit)) (a1 : Int) (s0 : Int) : ASt := ⟨[(1, .int .i64 a1, false), (9, sl 2 vunit a0, false), (10, .int .i64 ((a0.getD []).length : Int), false), (11, .int .i64 s0, false)], []⟩
def Ex54_0 (a0 : Option (List GUnit)) (a1 : Int) : ((List UInt8) × (Option (List Int))) ⊕ Int → AExit × ASt
  | .inl d => (.ret, ⟨[(4, .bool false, false)], [.cells [(.str d.1, false), (sl 1 vint d.2, false)]]⟩)
  | .inr (d) => (.exit 0, ⟨[(1, .int .i64 a1, false), (9, sl 2 vunit a0, false), (10, .int .i64 ((a0.getD []).length : Int), false), (11, .int .i64 d, false), (12, .bool false, false)], []⟩)
theorem b54_0 (a0 : Option (List GUnit)) (a1 : Int) (s0 : Int) (r) (h : s54_0 a0 a1 s0 = some r) : stepO pr c54_0 (St54_0 a0 a1) (Ex54_0 a0 a1) s0 r := by
  unfold s54_0 at h
  rcases cond_split h with ⟨h45, h⟩ | ⟨h45, h⟩
  · obtain ⟨v46, h47, h⟩ := obind_some h
    obtain ⟨d63, h64, h⟩ := obind_some h
    rcases d63 with d65 | d66
    · have wh64 : X pr (.loop c54_1) ⟨[(1, .int .i64 a1, false), (9, sl 2 vunit a0, false), (10, .int .i64 ((a0.getD []).length : Int), false), (11, .int .i64 s0, false), (16, sl 1 vint v46.values, false), (17, .int .i64 ((v46.values.getD []).length : Int), false), (18, .int .i64 0, false)], [.cells [(.str v46.serial, false), (sl 1 vint v46.values, false)]]⟩ = some (.ret, ⟨[(4, .bool false, false)], [.cells [(.str v46.serial, false), (sl 1 vint v46.values, false)]]⟩) := l54_1 a0 a1 s0 v46 h64
      cases h.symm
      exact stepO_out (by simp only [go_sem, c54_0, St54_0, h45, idxR_O h47, wh64, Ex54_0, reduceIte, Nat.reduceEqDiff, Nat.reduceAdd, Nat.reduceSub, Nat.reduceLT, Nat.reduceLeDiff, Nat.reduceMul, Int.reduceLT, Int.reduceLE, Int.reduceEq, Int.reduceNe, Int.reduceAdd, Int.reduceSub, Int.reduceNeg, Int.reduceMul])
    · have wh64 : X pr (.loop c54_1) ⟨[(1, .int .i64 a1, false), (9, sl 2 vunit a0, false), (10, .int .i64 ((a0.getD []).length : Int), false), (11, .int .i64 s0, false), (16, sl 1 vint v46.values, false), (17, .int .i64 ((v46.values.getD []).length : Int), false), (18, .int .i64 0, false)], [.cells [(.str v46.serial, false), (sl 1 vint v46.values, false)]]⟩ = some (.exit 2, ⟨[(1, .int .i64 a1, false), (9, sl 2 vunit a0, false), (10, .int .i64 ((a0.getD []).length : Int), false), (11, .int .i64 s0, false), (16, sl 1 vint v46.values, false), (17, .int .i64 ((v46.values.getD []).length : Int), false), (18, .int .i64 d66, false), (19, .bool false, false)], [.cells [(.str v46.serial, false), (sl 1 vint v46.values, false)]]⟩) := l54_1 a0 a1 s0 v46 h64
      cases h.symm
      exact stepO_in (st' := ⟨[(1, .int .i64 a1, false), (9, sl 2 vunit a0, false), (10, .int .i64 ((a0.getD []).length : Int), false), (11, .int .i64 (wrapF .i64 (s0 + 1)), false)], [] ++ [.cells [(.str v46.serial, false), (sl 1 vint v46.values, false)]]⟩) (by simp only [go_sem, c54_0, St54_0, h45, idxR_O h47, wh64, reduceIte, Nat.reduceEqDiff, Nat.reduceAdd, Nat.reduceSub, Nat.reduceLT, Nat.reduceLeDiff, Nat.reduceMul, Int.reduceLT, Int.reduceLE, Int.reduceEq, Int.reduceNe, Int.reduceAdd, Int.reduceSub, Int.reduceNeg, Int.reduceMul]) (gc_over rfl rfl (by first | simp only [go_sem, St54_0, reduceIte, Nat.reduceEqDiff, Nat.reduceAdd, Nat.reduceSub, Nat.reduceLT, Nat.reduceLeDiff, Nat.reduceMul, Int.reduceLT, Int.reduceLE, Int.reduceEq, Int.reduceNe, Int.reduceAdd, Int.reduceSub, Int.reduceNeg, Int.reduceMul] | rfl) (by first | simp only [go_sem, St54_0, reduceIte, Nat.reduceEqDiff, Nat.reduceAdd, Nat.reduceSub, Nat.reduceLT, Nat.reduceLeDiff, Nat.reduceMul, Int.reduceLT, Int.reduceLE, Int.reduceEq, Int.reduceNe, Int.reduceAdd, Int.reduceSub, Int.reduceNeg, Int.reduceMul] | rfl))
  · cases h.symm
    exact stepO_out (by simp only [go_sem, c54_0, St54_0, h45, Ex54_0, reduceIte, Nat.reduceEqDiff, Nat.reduceAdd, Nat.reduceSub, Nat.reduceLT, Nat.reduceLeDiff, Nat.reduceMul, Int.reduceLT, Int.reduceLE, Int.reduceEq, Int.reduceNe, Int.reduceAdd, Int.reduceSub, Int.reduceNeg, Int.reduceMul])
theorem l54_0 (a0 : Option (List GUnit)) (a1 : Int) {s : Int} {d} (h : itO (s54_0 a0 a1) s = some d) : X pr (.loop c54_0) (St54_0 a0 a1 s) = some (Ex54_0 a0 a1 d) := X_itO (b54_0 a0 a1) (fun d => by rcases d with d|d <;> (intro hh; cases hh)) h
noncomputable def f54 (a0 : Option (List GUnit)) (a1 : Int) : Option Bool :=
  obind (itO (s54_0 a0 a1) 0) fun d67 => match d67 with
    | .inl d69 =>
      some false
    | .inr d70 =>
      some true
theorem W54 {a0 : Option (List GUnit)} {a1 : Int} {r} (h : f54 a0 a1 = some r) : callIso pr (X pr) 54 [sl 2 vunit a0, .int .i64 a1] = some (.bool r, false) := by
  unfold f54 at h
  obtain ⟨d67, h68, h⟩ := obind_some h
  rcases d67 with d69 | d70
  · have wh68 : X pr (.loop c54_0) ⟨[(1, .int .i64 a1, false), (9, sl 2 vunit a0, false), (10, .int .i64 ((a0.getD []).length : Int), false), (11, .int .i64 0, false)], []⟩ = some (.ret, ⟨[(4, .bool false, false)], [.cells [(.str d69.1, false), (sl 1 vint d69.2, false)]]⟩) := l54_0 a0 a1 h68
    have hr : false = r := Option.some.inj h
    subst hr
    have this : ∃ hh, callFn pr (X pr) 54 [sl 2 vunit a0, .int .i64 a1] [] = some (.bool false, false, hh) := by
      rw [callFn_at (show pr.fns 54 = some c54 from rfl) (by simp)]
      simp only [go_sem, c54, wh68, reduceIte, Nat.reduceEqDiff, Nat.reduceAdd, Nat.reduceSub, Nat.reduceLT, Nat.reduceLeDiff, Nat.reduceMul, Int.reduceLT, Int.reduceLE, Int.reduceEq, Int.reduceNe, Int.reduceAdd, Int.reduceSub, Int.reduceNeg, Int.reduceMul]
      exact ⟨_, rfl⟩
    obtain ⟨hh, this⟩ := this
    exact callIso_of rfl this (by simp only [go_sem, reduceIte, Nat.reduceEqDiff, Nat.reduceAdd, Nat.reduceSub, Nat.reduceLT, Nat.reduceLeDiff, Nat.reduceMul, Int.reduceLT, Int.reduceLE, Int.reduceEq, Int.reduceNe, Int.reduceAdd, Int.reduceSub, Int.reduceNeg, Int.reduceMul]) (by simp only [go_sem, reduceIte, Nat.reduceEqDiff, Nat.reduceAdd, Nat.reduceSub, Nat.reduceLT, Nat.reduceLeDiff, Nat.reduceMul, Int.reduceLT, Int.reduceLE, Int.reduceEq, Int.reduceNe, Int.reduceAdd, Int.reduceSub, Int.reduceNeg, Int.reduceMul])
  · have wh68 : X pr (.loop c54_0) ⟨[(1, .int .i64 a1, false), (9, sl 2 vunit a0, false), (10, .int .i64 ((a0.getD []).length : Int), false), (11, .int .i64 0, false)], []⟩ = some (.exit 0, ⟨[(1, .int .i64 a1, false), (9, sl 2 vunit a0, false), (10, .int .i64 ((a0.getD []).length : Int), false), (11, .int .i64 d70, false), (12, .bool false, false)], []⟩) := l54_0 a0 a1 h68
    have hr : true = r := Option.some.inj h
    subst hr
    have this : ∃ hh, callFn pr (X pr) 54 [sl 2 vunit a0, .int .i64 a1] [] = some (.bool true, false, hh) := by
      rw [callFn_at (show pr.fns 54 = some c54 from rfl) (by simp)]
      simp only [go_sem, c54, wh68, reduceIte, Nat.reduceEqDiff, Nat.reduceAdd, Nat.reduceSub, Nat.reduceLT, Nat.reduceLeDiff, Nat.reduceMul, Int.reduceLT, Int.reduceLE, Int.reduceEq, Int.reduceNe, Int.reduceAdd, Int.reduceSub, Int.reduceNeg, Int.reduceMul]
      exact ⟨_, rfl⟩
    obtain ⟨hh, this⟩ := this
    exact callIso_of rfl this (by simp only [go_sem, reduceIte, Nat.reduceEqDiff, Nat.reduceAdd, Nat.reduceSub, Nat.reduceLT, Nat.reduceLeDiff, Nat.reduceMul, Int.reduceLT, Int.reduceLE, Int.reduceEq, Int.reduceNe, Int.reduceAdd, Int.reduceSub, Int.reduceNeg, Int.reduceMul]) (by simp only [go_sem, reduceIte, Nat.reduceEqDiff, Nat.reduceAdd, Nat.reduceSub, Nat.reduceLT, Nat.reduceLeDiff, Nat.reduceMul, Int.reduceLT, Int.reduceLE, Int.reduceEq, Int.reduceNe, Int.reduceAdd, Int.reduceSub, Int.reduceNeg, Int.reduceMul])
noncomputable def s7_0 (a0 : Option (List GUnit)) (a1 : Int) (v12 : Int) (v16 : GMask × Int) (v18 : GMask × Int) (v22 : GMask × Int) (v24 : GRat × Int) (s0 : Int) : Option (Int ⊕ (((List UInt8) × (Option (List Int))) ⊕ Int)) :=
  cond (decide (s0 < ((a0.getD []).length : Int)))
   (obind (idxO (a0.getD []) s0) fun v88 =>
    obind (E20 v18.1) fun v90 =>
    obind (E32 v88) fun v92 =>
    obind (E31 v90 v92) fun v94 =>
    obind (E33 v90 v92 (wrapF .i64 (1 + v12))) fun v96 =>
    obind (E20 v16.1) fun v98 =>
    obind (E33 v98 v92 (wrapF .i64 (1 + v12))) fun v100 =>
    cond (decide (v94.2 = 0))
     (cond (decide (v96.2 = 0))
       (cond (decide (v100.2 = 0))
         (cond (decide (((v94.1.getD []).length : Int) = 0))
           (cond (decide (v96.1 < 0))
             (some (.inr (.inl (v88.serial, v88.values))))
             (cond (decide ((wrapF .i64 (1 + v12)) ≤ v96.1))
               (some (.inr (.inl (v88.serial, v88.values))))
               (cond (decide (v100.1 < 0))
                 (some (.inr (.inl (v88.serial, v88.values))))
                 (cond (decide (v96.1 < v100.1))
                   (some (.inr (.inl (v88.serial, v88.values))))
                   (some (.inl (wrapF .i64 (s0 + 1))))))))
           (some (.inr (.inl (v88.serial, v88.values)))))
         (some (.inr (.inl (v88.serial, v88.values)))))
       (some (.inr (.inl (v88.serial, v88.values)))))
     (some (.inr (.inl (v88.serial, v88.values)))))
   (some (.inr (.inr (s0))))
def St7_0 (a0 : Option (List GUnit)) (a1 : Int) (v12 : Int) (v16 : GMask × Int) (v18 : GMask × Int) (v22 : GMask × Int) (v24 : GRat × Int) (s0 : Int) : ASt := ⟨[(0, sl 2 vunit a0, false), (1, .int .u8 a1, false), (7, .int .i64 (wrapF .i64 (1 + v12)), false), (8, .ptr 0 0, false), (10, .ptr 1 0, false), (133, sl 2 vunit a0, false), (134, .int .i64 ((a0.getD []).length : Int), false), (135, .int .i64 s0, false)], [.cells [(sl 1 vint v16.1.least, false), (sl 1 vint v16.1.most, false)], .cells [(sl 1 vint v18.1.least, false), (sl 1 vint v18.1.most, false)], .cells [(sl 1 vint v22.1.least, false), (sl 1 vint v22.1.most, false)], .cells [(.int .i64 v24.1.num, false), (.int .i64 v24.1.den, false)]]⟩
def Ex7_0 (a0 : Option (List GUnit)) (a1 : Int) (v12 : Int) (v16 : GMask × Int) (v18 : GMask × Int) (v22 : GMask × Int) (v24 : GRat × Int) : ((List UInt8) × (Option (List Int))) ⊕ Int → AExit × ASt
  | .inl d => (.ret, ⟨[(6, .bool false, false)], [.cells [(sl 1 vint v16.1.least, false), (sl 1 vint v16.1.most, false)], .cells [(sl 1 vint v18.1.least, false), (sl 1 vint v18.1.most, false)], .cells [(sl 1 vint v22.1.least, false), (sl 1 vint v22.1.most, false)], .cells [(.int .i64 v24.1.num, false), (.int .i64 v24.1.den, false)], .cells [(.str d.1, false), (sl 1 vint d.2, false)]]⟩)
  | .inr (d) => (.exit 0, ⟨[(0, sl 2 vunit a0, false), (1, .int .u8 a1, false), (7, .int .i64 (wrapF .i64 (1 + v12)), false), (8, .ptr 0 0, false), (10, .ptr 1 0, false), (133, sl 2 vunit a0, false), (134, .int .i64 ((a0.getD []).length : Int), false), (135, .int .i64 d, false), (136, .bool false, false)], [.cells [(sl 1 vint v16.1.least, false), (sl 1 vint v16.1.most, false)], .cells [(sl 1 vint v18.1.least, false), (sl 1 vint v18.1.most, false)], .cells [(sl 1 vint v22.1.least, false), (sl 1 vint v22.1.most, false)], .cells [(.int .i64 v24.1.num, false), (.int .i64 v24.1.den, false)]]⟩)
theorem b7_0 (a0 : Option (List GUnit)) (a1 : Int) (v12 : Int) (v16 : GMask × Int) (v18 : GMask × Int) (v22 : GMask × Int) (v24 : GRat × Int) (s0 : Int) (r) (h : s7_0 a0 a1 v12 v16 v18 v22 v24 s0 = some r) : stepO pr c7_0 (St7_0 a0 a1 v12 v16 v18 v22 v24) (Ex7_0 a0 a1 v12 v16 v18 v22 v24) s0 r := by
  unfold s7_0 at h
  rcases cond_split h with ⟨h87, h⟩ | ⟨h87, h⟩
  · obtain ⟨v88, h89, h⟩ := obind_some h
    obtain ⟨v90, h91, h⟩ := obind_some h
    have wh91 : callIso pr (X pr) 20 [.agg [sl 1 vint v18.1.least, sl 1 vint v18.1.most]] = some (.agg [sl 1 vint v90.least, sl 1 vint v90.most], false) := WE20 h91
    obtain ⟨v92, h93, h⟩ := obind_some h
    have wh93 : callIso pr (X pr) 32 [.agg [.str v88.serial, sl 1 vint v88.values]] = some (.agg [.str v92.serial, sl 1 vint v92.values], false) := WE32 h93
    obtain ⟨v94, h95, h⟩ := obind_some h
    have wh95 : callIso pr (X pr) 31 [.agg [sl 1 vint v90.least, sl 1 vint v90.most], .agg [.str v92.serial, sl 1 vint v92.values]] = some (.tup [sl 1 vint v94.1, .int .i64 v94.2], false) := WE31 h95
    obtain ⟨v96, h97, h⟩ := obind_some h
    have wh97 : callIso pr (X pr) 33 [.agg [sl 1 vint v90.least, sl 1 vint v90.most], .agg [.str v92.serial, sl 1 vint v92.values], .int .i64 (wrapF .i64 (1 + v12))] = some (.tup [.int .i64 v96.1, .int .i64 v96.2], false) := WE33 h97
    obtain ⟨v98, h99, h⟩ := obind_some h
    have wh99 : callIso pr (X pr) 20 [.agg [sl 1 vint v16.1.least, sl 1 vint v16.1.most]] = some (.agg [sl 1 vint v98.least, sl 1 vint v98.most], false) := WE20 h99
    obtain ⟨v100, h101, h⟩ := obind_some h
    have wh101 : callIso pr (X pr) 33 [.agg [sl 1 vint v98.least, sl 1 vint v98.most], .agg [.str v92.serial, sl 1 vint v92.values], .int .i64 (wrapF .i64 (1 + v12))] = some (.tup [.int .i64 v100.1, .int .i64 v100.2], false) := WE33 h101
    rcases cond_split h with ⟨h102, h⟩ | ⟨h102, h⟩
    · rcases cond_split h with ⟨h103, h⟩ | ⟨h103, h⟩
      · rcases cond_split h with ⟨h104, h⟩ | ⟨h104, h⟩
        · rcases cond_split h with ⟨h105, h⟩ | ⟨h105, h⟩
          · rcases cond_split h with ⟨h106, h⟩ | ⟨h106, h⟩
            · cases h.symm
              exact stepO_out (by simp only [go_sem, c7_0, St7_0, h87, idxR_O h89, wh91, wh93, wh95, wh97, wh99, wh101, h102, h103, h104, h105, h106, Ex7_0, reduceIte, Nat.reduceEqDiff, Nat.reduceAdd, Nat.reduceSub, Nat.reduceLT, Nat.reduceLeDiff, Nat.reduceMul, Int.reduceLT, Int.reduceLE, Int.reduceEq, Int.reduceNe, Int.reduceAdd, Int.reduceSub, Int.reduceNeg, Int.reduceMul])
            · rcases cond_split h with ⟨h107, h⟩ | ⟨h107, h⟩
              · cases h.symm
                exact stepO_out (by simp only [go_sem, c7_0, St7_0, h87, idxR_O h89, wh91, wh93, wh95, wh97, wh99, wh101, h102, h103, h104, h105, h106, h107, Ex7_0, reduceIte, Nat.reduceEqDiff, Nat.reduceAdd, Nat.reduceSub, Nat.reduceLT, Nat.reduceLeDiff, Nat.reduceMul, Int.reduceLT, Int.reduceLE, Int.reduceEq, Int.reduceNe, Int.reduceAdd, Int.reduceSub, Int.reduceNeg, Int.reduceMul])
              · rcases cond_split h with ⟨h108, h⟩ | ⟨h108, h⟩
                · cases h.symm
                  exact stepO_out (by simp only [go_sem, c7_0, St7_0, h87, idxR_O h89, wh91, wh93, wh95, wh97, wh99, wh101, h102, h103, h104, h105, h106, h107, h108, Ex7_0, reduceIte, Nat.reduceEqDiff, Nat.reduceAdd, Nat.reduceSub, Nat.reduceLT, Nat.reduceLeDiff, Nat.reduceMul, Int.reduceLT, Int.reduceLE, Int.reduceEq, Int.reduceNe, Int.reduceAdd, Int.reduceSub, Int.reduceNeg, Int.reduceMul])
                · rcases cond_split h with ⟨h109, h⟩ | ⟨h109, h⟩
                  · cases h.symm
                    exact stepO_out (by simp only [go_sem, c7_0, St7_0, h87, idxR_O h89, wh91, wh93, wh95, wh97, wh99, wh101, h102, h103, h104, h105, h106, h107, h108, h109, Ex7_0, reduceIte, Nat.reduceEqDiff, Nat.reduceAdd, Nat.reduceSub, Nat.reduceLT, Nat.reduceLeDiff, Nat.reduceMul, Int.reduceLT, Int.reduceLE, Int.reduceEq, Int.reduceNe, Int.reduceAdd, Int.reduceSub, Int.reduceNeg, Int.reduceMul])
                  · cases h.symm
                    exact stepO_in (st' := ⟨[(0, sl 2 vunit a0, false), (1, .int .u8 a1, false), (7, .int .i64 (wrapF .i64 (1 + v12)), false), (8, .ptr 0 0, false), (10, .ptr 1 0, false), (133, sl 2 vunit a0, false), (134, .int .i64 ((a0.getD []).length : Int), false), (135, .int .i64 (wrapF .i64 (s0 + 1)), false)], [.cells [(sl 1 vint v16.1.least, false), (sl 1 vint v16.1.most, false)], .cells [(sl 1 vint v18.1.least, false), (sl 1 vint v18.1.most, false)], .cells [(sl 1 vint v22.1.least, false), (sl 1 vint v22.1.most, false)], .cells [(.int .i64 v24.1.num, false), (.int .i64 v24.1.den, false)]] ++ [.cells [(.str v88.serial, false), (sl 1 vint v88.values, false)]]⟩) (by simp only [go_sem, c7_0, St7_0, h87, idxR_O h89, wh91, wh93, wh95, wh97, wh99, wh101, h102, h103, h104, h105, h106, h107, h108, h109, reduceIte, Nat.reduceEqDiff, Nat.reduceAdd, Nat.reduceSub, Nat.reduceLT, Nat.reduceLeDiff, Nat.reduceMul, Int.reduceLT, Int.reduceLE, Int.reduceEq, Int.reduceNe, Int.reduceAdd, Int.reduceSub, Int.reduceNeg, Int.reduceMul]) (gc_over rfl rfl (by first | simp only [go_sem, St7_0, reduceIte, Nat.reduceEqDiff, Nat.reduceAdd, Nat.reduceSub, Nat.reduceLT, Nat.reduceLeDiff, Nat.reduceMul, Int.reduceLT, Int.reduceLE, Int.reduceEq, Int.reduceNe, Int.reduceAdd, Int.reduceSub, Int.reduceNeg, Int.reduceMul] | rfl) (by first | simp only [go_sem, St7_0, reduceIte, Nat.reduceEqDiff, Nat.reduceAdd, Nat.reduceSub, Nat.reduceLT, Nat.reduceLeDiff, Nat.reduceMul, Int.reduceLT, Int.reduceLE, Int.reduceEq, Int.reduceNe, Int.reduceAdd, Int.reduceSub, Int.reduceNeg, Int.reduceMul] | rfl))
          · cases h.symm
            exact stepO_out (by simp only [go_sem, c7_0, St7_0, h87, idxR_O h89, wh91, wh93, wh95, wh97, wh99, wh101, h102, h103, h104, h105, Ex7_0, reduceIte, Nat.reduceEqDiff, Nat.reduceAdd, Nat.reduceSub, Nat.reduceLT, Nat.reduceLeDiff, Nat.reduceMul, Int.reduceLT, Int.reduceLE, Int.reduceEq, Int.reduceNe, Int.reduceAdd, Int.reduceSub, Int.reduceNeg, Int.reduceMul])
        · cases h.symm
          exact stepO_out (by simp only [go_sem, c7_0, St7_0, h87, idxR_O h89, wh91, wh93, wh95, wh97, wh99, wh101, h102, h103, h104, Ex7_0, reduceIte, Nat.reduceEqDiff, Nat.reduceAdd, Nat.reduceSub, Nat.reduceLT, Nat.reduceLeDiff, Nat.reduceMul, Int.reduceLT, Int.reduceLE, Int.reduceEq, Int.reduceNe, Int.reduceAdd, Int.reduceSub, Int.reduceNeg, Int.reduceMul])
      · cases h.symm
        exact stepO_out (by simp only [go_sem, c7_0, St7_0, h87, idxR_O h89, wh91, wh93, wh95, wh97, wh99, wh101, h102, h103, Ex7_0, reduceIte, Nat.reduceEqDiff, Nat.reduceAdd, Nat.reduceSub, Nat.reduceLT, Nat.reduceLeDiff, Nat.reduceMul, Int.reduceLT, Int.reduceLE, Int.reduceEq, Int.reduceNe, Int.reduceAdd, Int.reduceSub, Int.reduceNeg, Int.reduceMul])
    · cases h.symm
      exact stepO_out (by simp only [go_sem, c7_0, St7_0, h87, idxR_O h89, wh91, wh93, wh95, wh97, wh99, wh101, h102, Ex7_0, reduceIte, Nat.reduceEqDiff, Nat.reduceAdd, Nat.reduceSub, Nat.reduceLT, Nat.reduceLeDiff, Nat.reduceMul, Int.reduceLT, Int.reduceLE, Int.reduceEq, Int.reduceNe, Int.reduceAdd, Int.reduceSub, Int.reduceNeg, Int.reduceMul])
  · cases h.symm
    exact stepO_out (by simp only [go_sem, c7_0, St7_0, h87, Ex7_0, reduceIte, Nat.reduceEqDiff, Nat.reduceAdd, Nat.reduceSub, Nat.reduceLT, Nat.reduceLeDiff, Nat.reduceMul, Int.reduceLT, Int.reduceLE, Int.reduceEq, Int.reduceNe, Int.reduceAdd, Int.reduceSub, Int.reduceNeg, Int.reduceMul])
theorem l7_0 (a0 : Option (List GUnit)) (a1 : Int) (v12 : Int) (v16 : GMask × Int) (v18 : GMask × Int) (v22 : GMask × Int) (v24 : GRat × Int) {s : Int} {d} (h : itO (s7_0 a0 a1 v12 v16 v18 v22 v24) s = some d) : X pr (.loop c7_0) (St7_0 a0 a1 v12 v16 v18 v22 v24 s) = some (Ex7_0 a0 a1 v12 v16 v18 v22 v24 d) := X_itO (b7_0 a0 a1 v12 v16 v18 v22 v24) (fun d => by rcases d with d|d <;> (intro hh; cases hh)) h
noncomputable def s7_1 (v16 : GMask × Int) (v18 : GMask × Int) (v22 : GMask × Int) (v24 : GRat × Int) (v121 : GMask × Int) (s1 : Int) : Option (Int ⊕ (Unit ⊕ Int)) :=
  cond (decide (s1 < ((v16.1.least.getD []).length : Int)))
   (obind (idxO (v121.1.least.getD []) s1) fun v149 =>
    obind (idxO (v16.1.least.getD []) s1) fun v151 =>
    cond (decide (v149 < v151))
     (some (.inr (.inl ())))
     (obind (idxO (v121.1.most.getD []) s1) fun v154 =>
      obind (idxO (v16.1.most.getD []) s1) fun v156 =>
      cond (decide (v156 < v154))
       (some (.inr (.inl ())))
       (some (.inl (wrapF .i64 (s1 + 1))))))
   (some (.inr (.inr (s1))))
def St7_1 (v16 : GMask × Int) (v18 : GMask × Int) (v22 : GMask × Int) (v24 : GRat × Int) (v121 : GMask × Int) (s1 : Int) : ASt := ⟨[(8, .ptr 0 0, false), (24, .ptr 4 0, false), (234, .int .i64 ((v16.1.least.getD []).length : Int), false), (235, .int .i64 s1, false)], [.cells [(sl 1 vint v16.1.least, false), (sl 1 vint v16.1.most, false)], .cells [(sl 1 vint v18.1.least, false), (sl 1 vint v18.1.most, false)], .cells [(sl 1 vint v22.1.least, false), (sl 1 vint v22.1.most, false)], .cells [(.int .i64 v24.1.num, false), (.int .i64 v24.1.den, false)], .cells [(sl 1 vint v121.1.least, false), (sl 1 vint v121.1.most, false)]]⟩
def Ex7_1 (v16 : GMask × Int) (v18 : GMask × Int) (v22 : GMask × Int) (v24 : GRat × Int) (v121 : GMask × Int) : Unit ⊕ Int → AExit × ASt
  | .inl d => (.ret, ⟨[(6, .bool false, false)], [.cells [(sl 1 vint v16.1.least, false), (sl 1 vint v16.1.most, false)], .cells [(sl 1 vint v18.1.least, false), (sl 1 vint v18.1.most, false)], .cells [(sl 1 vint v22.1.least, false), (sl 1 vint v22.1.most, false)], .cells [(.int .i64 v24.1.num, false), (.int .i64 v24.1.den, false)], .cells [(sl 1 vint v121.1.least, false), (sl 1 vint v121.1.most, false)]]⟩)
  | .inr (d) => (.exit 2, ⟨[(8, .ptr 0 0, false), (24, .ptr 4 0, false), (234, .int .i64 ((v16.1.least.getD []).length : Int), false), (235, .int .i64 d, false), (236, .bool false, false)], [.cells [(sl 1 vint v16.1.least, false), (sl 1 vint v16.1.most, false)], .cells [(sl 1 vint v18.1.least, false), (sl 1 vint v18.1.most, false)], .cells [(sl 1 vint v22.1.least, false), (sl 1 vint v22.1.most, false)], .cells [(.int .i64 v24.1.num, false), (.int .i64 v24.1.den, false)], .cells [(sl 1 vint v121.1.least, false), (sl 1 vint v121.1.most, false)]]⟩)
theorem b7_1 (v16 : GMask × Int) (v18 : GMask × Int) (v22 : GMask × Int) (v24 : GRat × Int) (v121 : GMask × Int) (s1 : Int) (r) (h : s7_1 v16 v18 v22 v24 v121 s1 = some r) : stepO pr c7_1 (St7_1 v16 v18 v22 v24 v121) (Ex7_1 v16 v18 v22 v24 v121) s1 r := by
  unfold s7_1 at h
  rcases cond_split h with ⟨h148, h⟩ | ⟨h148, h⟩
  · obtain ⟨v149, h150, h⟩ := obind_some h
    obtain ⟨v151, h152, h⟩ := obind_some h
    rcases cond_split h with ⟨h153, h⟩ | ⟨h153, h⟩
    · cases h.symm
      exact stepO_out (by simp only [go_sem, c7_1, St7_1, h148, idxR_O h150, idxR_O h152, h153, Ex7_1, reduceIte, Nat.reduceEqDiff, Nat.reduceAdd, Nat.reduceSub, Nat.reduceLT, Nat.reduceLeDiff, Nat.reduceMul, Int.reduceLT, Int.reduceLE, Int.reduceEq, Int.reduceNe, Int.reduceAdd, Int.reduceSub, Int.reduceNeg, Int.reduceMul])
    · obtain ⟨v154, h155, h⟩ := obind_some h
      obtain ⟨v156, h157, h⟩ := obind_some h
      rcases cond_split h with ⟨h158, h⟩ | ⟨h158, h⟩
      · cases h.symm
        exact stepO_out (by simp only [go_sem, c7_1, St7_1, h148, idxR_O h150, idxR_O h152, h153, idxR_O h155, idxR_O h157, h158, Ex7_1, reduceIte, Nat.reduceEqDiff, Nat.reduceAdd, Nat.reduceSub, Nat.reduceLT, Nat.reduceLeDiff, Nat.reduceMul, Int.reduceLT, Int.reduceLE, Int.reduceEq, Int.reduceNe, Int.reduceAdd, Int.reduceSub, Int.reduceNeg, Int.reduceMul])
      · cases h.symm
        exact stepO_in (st' := ⟨[(8, .ptr 0 0, false), (24, .ptr 4 0, false), (234, .int .i64 ((v16.1.least.getD []).length : Int), false), (235, .int .i64 (wrapF .i64 (s1 + 1)), false)], [.cells [(sl 1 vint v16.1.least, false), (sl 1 vint v16.1.most, false)], .cells [(sl 1 vint v18.1.least, false), (sl 1 vint v18.1.most, false)], .cells [(sl 1 vint v22.1.least, false), (sl 1 vint v22.1.most, false)], .cells [(.int .i64 v24.1.num, false), (.int .i64 v24.1.den, false)], .cells [(sl 1 vint v121.1.least, false), (sl 1 vint v121.1.most, false)]]⟩) (by simp only [go_sem, c7_1, St7_1, h148, idxR_O h150, idxR_O h152, h153, idxR_O h155, idxR_O h157, h158, reduceIte, Nat.reduceEqDiff, Nat.reduceAdd, Nat.reduceSub, Nat.reduceLT, Nat.reduceLeDiff, Nat.reduceMul, Int.reduceLT, Int.reduceLE, Int.reduceEq, Int.reduceNe, Int.reduceAdd, Int.reduceSub, Int.reduceNeg, Int.reduceMul]) (gc_same (Nat.le_refl _))
  · cases h.symm
    exact stepO_out (by simp only [go_sem, c7_1, St7_1, h148, Ex7_1, reduceIte, Nat.reduceEqDiff, Nat.reduceAdd, Nat.reduceSub, Nat.reduceLT, Nat.reduceLeDiff, Nat.reduceMul, Int.reduceLT, Int.reduceLE, Int.reduceEq, Int.reduceNe, Int.reduceAdd, Int.reduceSub, Int.reduceNeg, Int.reduceMul])
theorem l7_1 (v16 : GMask × Int) (v18 : GMask × Int) (v22 : GMask × Int) (v24 : GRat × Int) (v121 : GMask × Int) {s : Int} {d} (h : itO (s7_1 v16 v18 v22 v24 v121) s = some d) : X pr (.loop c7_1) (St7_1 v16 v18 v22 v24 v121 s) = some (Ex7_1 v16 v18 v22 v24 v121 d) := X_itO (b7_1 v16 v18 v22 v24 v121) (fun d => by rcases d with d|d <;> (intro hh; cases hh)) h
noncomputable def f7 (a0 : Option (List GUnit)) (a1 : Int) (a2 : Int) : Option Bool :=
  obind (E14) fun v1 =>
  cond v1
   (cond (decide (((a0.getD []).length : Int) = 0))
     (some v1)
     (cond (decide (8 < ((a0.getD []).length : Int)))
       (some v1)
       (obind (E22 a0) fun v6 =>
        cond (decide (v6 = 0))
         (obind (f54 a0 90000) fun v9 =>
          cond v9
           (obind (remO (wrapF .i64 a2) 100) fun v12 =>
            obind (E18 a0) fun v14 =>
            obind (E17 v14 (wrapF .i64 a1)) fun v16 =>
            obind (E17 v14 0) fun v18 =>
            obind (E20 v16.1) fun v20 =>
            obind (E19 v20 (wrapF .i64 a1)) fun v22 =>
            obind (E34 v20 v14) fun v24 =>
            cond (decide ((wrapF .i64 ((wrapF .i64 ((wrapF .i64 (v16.2 + v18.2)) + v22.2)) + v24.2)) = 0))
             (obind (E25 v16.1) fun v27 =>
              cond (decide (v27 = 0))
               (obind (E25 v18.1) fun v30 =>
                cond (decide (v30 = 0))
                 (obind (E30 v22.1 v18.1) fun v33 =>
                  cond v33
                   (cond (decide (v24.1.num = 1) && decide (v24.1.den = 1))
                     (obind (idxO (a0.getD []) 0) fun v37 =>
                      cond (decide (((v16.1.least.getD []).length : Int) = ((v37.values.getD []).length : Int)))
                       (cond (decide (((v18.1.least.getD []).length : Int) = ((v16.1.least.getD []).length : Int)))
                         (obind (itO (s7_0 a0 a1 v12 v16 v18 v22 v24) 0) fun d110 => match d110 with
                            | .inl d112 =>
                              some false
                            | .inr d113 =>
                              cond (decide (((a0.getD []).length : Int) < 2))
                               (some true)
                               (obind (cutSO a0 (some 1) none) fun v115 =>
                                obind (E18 v115) fun v117 =>
                                obind (quoO .i64 (wrapF .i64 a1) 2) fun v119 =>
                                obind (E17 v117 v119) fun v121 =>
                                cond (decide (v121.2 = 0))
                                 (cond (decide (((v121.1.least.getD []).length : Int) = ((v16.1.least.getD []).length : Int)))
                                   (cond (decide (((v121.1.most.getD []).length : Int) = ((v16.1.least.getD []).length : Int)))
                                     (obind (itO (s7_1 v16 v18 v22 v24 v121) 0) fun d159 => match d159 with
                                        | .inl d161 =>
                                          some false
                                        | .inr d162 =>
                                          some true)
                                     (some false))
                                   (some false))
                                 (some false)))
                         (some false))
                       (some false))
                     (some false))
                   (some false))
                 (some false))
               (some false))
             (some false))
           (some v1))
         (some v1))))
   (some v1)
theorem W7 {a0 : Option (List GUnit)} {a1 : Int} {a2 : Int} {r} (h : f7 a0 a1 a2 = some r) : callIso pr (X pr) 7 [sl 2 vunit a0, .int .u8 a1, .int .u8 a2] = some (.bool r, false) := by
  unfold f7 at h
  obtain ⟨v1, h2, h⟩ := obind_some h
  have wh2 : callIso pr (X pr) 14 [] = some (.bool v1, false) := WE14 h2
  rcases cond_split h with ⟨h3, h⟩ | ⟨h3, h⟩
  · rcases cond_split h with ⟨h4, h⟩ | ⟨h4, h⟩
    · have hr : v1 = r := Option.some.inj h
      subst hr
      have this : ∃ hh, callFn pr (X pr) 7 [sl 2 vunit a0, .int .u8 a1, .int .u8 a2] [] = some (.bool v1, false, hh) := by
        rw [callFn_at (show pr.fns 7 = some c7 from rfl) (by simp)]
        simp only [go_sem, c7, wh2, h3, h4, reduceIte, Nat.reduceEqDiff, Nat.reduceAdd, Nat.reduceSub, Nat.reduceLT, Nat.reduceLeDiff, Nat.reduceMul, Int.reduceLT, Int.reduceLE, Int.reduceEq, Int.reduceNe, Int.reduceAdd, Int.reduceSub, Int.reduceNeg, Int.reduceMul]
        exact ⟨_, rfl⟩
      obtain ⟨hh, this⟩ := this
      exact callIso_of rfl this (by simp only [go_sem, reduceIte, Nat.reduceEqDiff, Nat.reduceAdd, Nat.reduceSub, Nat.reduceLT, Nat.reduceLeDiff, Nat.reduceMul, Int.reduceLT, Int.reduceLE, Int.reduceEq, Int.reduceNe, Int.reduceAdd, Int.reduceSub, Int.reduceNeg, Int.reduceMul]) (by simp only [go_sem, reduceIte, Nat.reduceEqDiff, Nat.reduceAdd, Nat.reduceSub, Nat.reduceLT, Nat.reduceLeDiff, Nat.reduceMul, Int.reduceLT, Int.reduceLE, Int.reduceEq, Int.reduceNe, Int.reduceAdd, Int.reduceSub, Int.reduceNeg, Int.reduceMul])
    · rcases cond_split h with ⟨h5, h⟩ | ⟨h5, h⟩
      · have hr : v1 = r := Option.some.inj h
        subst hr
        have this : ∃ hh, callFn pr (X pr) 7 [sl 2 vunit a0, .int .u8 a1, .int .u8 a2] [] = some (.bool v1, false, hh) := by
          rw [callFn_at (show pr.fns 7 = some c7 from rfl) (by simp)]
          simp only [go_sem, c7, wh2, h3, h4, h5, reduceIte, Nat.reduceEqDiff, Nat.reduceAdd, Nat.reduceSub, Nat.reduceLT, Nat.reduceLeDiff, Nat.reduceMul, Int.reduceLT, Int.reduceLE, Int.reduceEq, Int.reduceNe, Int.reduceAdd, Int.reduceSub, Int.reduceNeg, Int.reduceMul]
          exact ⟨_, rfl⟩
        obtain ⟨hh, this⟩ := this
        exact callIso_of rfl this (by simp only [go_sem, reduceIte, Nat.reduceEqDiff, Nat.reduceAdd, Nat.reduceSub, Nat.reduceLT, Nat.reduceLeDiff, Nat.reduceMul, Int.reduceLT, Int.reduceLE, Int.reduceEq, Int.reduceNe, Int.reduceAdd, Int.reduceSub, Int.reduceNeg, Int.reduceMul]) (by simp only [go_sem, reduceIte, Nat.reduceEqDiff, Nat.reduceAdd, Nat.reduceSub, Nat.reduceLT, Nat.reduceLeDiff, Nat.reduceMul, Int.reduceLT, Int.reduceLE, Int.reduceEq, Int.reduceNe, Int.reduceAdd, Int.reduceSub, Int.reduceNeg, Int.reduceMul])
      · obtain ⟨v6, h7, h⟩ := obind_some h
        have wh7 : callIso pr (X pr) 22 [sl 2 vunit a0] = some (.int .i64 v6, false) := WE22 h7
        rcases cond_split h with ⟨h8, h⟩ | ⟨h8, h⟩
        · obtain ⟨v9, h10, h⟩ := obind_some h
          have wh10 : callIso pr (X pr) 54 [sl 2 vunit a0, .int .i64 90000] = some (.bool v9, false) := W54 h10
          rcases cond_split h with ⟨h11, h⟩ | ⟨h11, h⟩
          · obtain ⟨v12, h13, h⟩ := obind_some h
            obtain ⟨v14, h15, h⟩ := obind_some h
            have wh15 : callIso pr (X pr) 18 [sl 2 vunit a0] = some (sl 2 vunit v14, (accO (a0.getD []))) := WE18 h15
            obtain ⟨v16, h17, h⟩ := obind_some h
            have wh17 : callIso pr (X pr) 17 [sl 2 vunit v14, .int .i64 (wrapF .i64 a1)] = some (.tup [.agg [sl 1 vint v16.1.least, sl 1 vint v16.1.most], .int .i64 v16.2], false) := WE17 h17
            obtain ⟨v18, h19, h⟩ := obind_some h
            have wh19 : callIso pr (X pr) 17 [sl 2 vunit v14, .int .i64 0] = some (.tup [.agg [sl 1 vint v18.1.least, sl 1 vint v18.1.most], .int .i64 v18.2], false) := WE17 h19
            obtain ⟨v20, h21, h⟩ := obind_some h
            have wh21 : callIso pr (X pr) 20 [.agg [sl 1 vint v16.1.least, sl 1 vint v16.1.most]] = some (.agg [sl 1 vint v20.least, sl 1 vint v20.most], false) := WE20 h21
            obtain ⟨v22, h23, h⟩ := obind_some h
            have wh23 : callIso pr (X pr) 19 [.agg [sl 1 vint v20.least, sl 1 vint v20.most], .int .i64 (wrapF .i64 a1)] = some (.tup [.agg [sl 1 vint v22.1.least, sl 1 vint v22.1.most], .int .i64 v22.2], false) := WE19 h23
            obtain ⟨v24, h25, h⟩ := obind_some h
            have wh25 : callIso pr (X pr) 34 [.agg [sl 1 vint v20.least, sl 1 vint v20.most], sl 2 vunit v14] = some (.tup [.agg [.int .i64 v24.1.num, .int .i64 v24.1.den], .int .i64 v24.2], false) := WE34 h25
            rcases cond_split h with ⟨h26, h⟩ | ⟨h26, h⟩
            · obtain ⟨v27, h28, h⟩ := obind_some h
              have wh28 : callIso pr (X pr) 25 [.agg [sl 1 vint v16.1.least, sl 1 vint v16.1.most]] = some (.int .i64 v27, false) := WE25 h28
              rcases cond_split h with ⟨h29, h⟩ | ⟨h29, h⟩
              · obtain ⟨v30, h31, h⟩ := obind_some h
                have wh31 : callIso pr (X pr) 25 [.agg [sl 1 vint v18.1.least, sl 1 vint v18.1.most]] = some (.int .i64 v30, false) := WE25 h31
                rcases cond_split h with ⟨h32, h⟩ | ⟨h32, h⟩
                · obtain ⟨v33, h34, h⟩ := obind_some h
                  have wh34 : callIso pr (X pr) 30 [.agg [sl 1 vint v22.1.least, sl 1 vint v22.1.most], .agg [sl 1 vint v18.1.least, sl 1 vint v18.1.most]] = some (.bool v33, false) := WE30 h34
                  rcases cond_split h with ⟨h35, h⟩ | ⟨h35, h⟩
                  · rcases cond_split h with ⟨h36, h⟩ | ⟨h36, h⟩
                    · obtain ⟨v37, h38, h⟩ := obind_some h
                      rcases cond_split h with ⟨h39, h⟩ | ⟨h39, h⟩
                      · rcases cond_split h with ⟨h40, h⟩ | ⟨h40, h⟩
                        · obtain ⟨d110, h111, h⟩ := obind_some h
                          rcases d110 with d112 | d113
                          · have wh111 : X pr (.loop c7_0) ⟨[(0, sl 2 vunit a0, false), (1, .int .u8 a1, false), (7, .int .i64 (wrapF .i64 (1 + v12)), false), (8, .ptr 0 0, false), (10, .ptr 1 0, false), (133, sl 2 vunit a0, false), (134, .int .i64 ((a0.getD []).length : Int), false), (135, .int .i64 0, false)], [.cells [(sl 1 vint v16.1.least, false), (sl 1 vint v16.1.most, false)], .cells [(sl 1 vint v18.1.least, false), (sl 1 vint v18.1.most, false)], .cells [(sl 1 vint v22.1.least, false), (sl 1 vint v22.1.most, false)], .cells [(.int .i64 v24.1.num, false), (.int .i64 v24.1.den, false)]]⟩ = some (.ret, ⟨[(6, .bool false, false)], [.cells [(sl 1 vint v16.1.least, false), (sl 1 vint v16.1.most, false)], .cells [(sl 1 vint v18.1.least, false), (sl 1 vint v18.1.most, false)], .cells [(sl 1 vint v22.1.least, false), (sl 1 vint v22.1.most, false)], .cells [(.int .i64 v24.1.num, false), (.int .i64 v24.1.den, false)], .cells [(.str d112.1, false), (sl 1 vint d112.2, false)]]⟩) := l7_0 a0 a1 v12 v16 v18 v22 v24 h111
                            have hr : false = r := Option.some.inj h
                            subst hr
                            have this : ∃ hh, callFn pr (X pr) 7 [sl 2 vunit a0, .int .u8 a1, .int .u8 a2] [] = some (.bool false, false, hh) := by
                              rw [callFn_at (show pr.fns 7 = some c7 from rfl) (by simp)]
                              simp only [go_sem, c7, wh2, h3, h4, h5, wh7, h8, wh10, h11, b_rem_O h13, wh15, wh17, wh19, wh21, wh23, wh25, h26, wh28, h29, wh31, h32, wh34, h35, h36, idxR_O h38, h39, h40, wh111, reduceIte, Nat.reduceEqDiff, Nat.reduceAdd, Nat.reduceSub, Nat.reduceLT, Nat.reduceLeDiff, Nat.reduceMul, Int.reduceLT, Int.reduceLE, Int.reduceEq, Int.reduceNe, Int.reduceAdd, Int.reduceSub, Int.reduceNeg, Int.reduceMul]
                              exact ⟨_, rfl⟩
                            obtain ⟨hh, this⟩ := this
                            exact callIso_of rfl this (by simp only [go_sem, reduceIte, Nat.reduceEqDiff, Nat.reduceAdd, Nat.reduceSub, Nat.reduceLT, Nat.reduceLeDiff, Nat.reduceMul, Int.reduceLT, Int.reduceLE, Int.reduceEq, Int.reduceNe, Int.reduceAdd, Int.reduceSub, Int.reduceNeg, Int.reduceMul]) (by simp only [go_sem, reduceIte, Nat.reduceEqDiff, Nat.reduceAdd, Nat.reduceSub, Nat.reduceLT, Nat.reduceLeDiff, Nat.reduceMul, Int.reduceLT, Int.reduceLE, Int.reduceEq, Int.reduceNe, Int.reduceAdd, Int.reduceSub, Int.reduceNeg, Int.reduceMul])
                          · have wh111 : X pr (.loop c7_0) ⟨[(0, sl 2 vunit a0, false), (1, .int .u8 a1, false), (7, .int .i64 (wrapF .i64 (1 + v12)), false), (8, .ptr 0 0, false), (10, .ptr 1 0, false), (133, sl 2 vunit a0, false), (134, .int .i64 ((a0.getD []).length : Int), false), (135, .int .i64 0, false)], [.cells [(sl 1 vint v16.1.least, false), (sl 1 vint v16.1.most, false)], .cells [(sl 1 vint v18.1.least, false), (sl 1 vint v18.1.most, false)], .cells [(sl 1 vint v22.1.least, false), (sl 1 vint v22.1.most, false)], .cells [(.int .i64 v24.1.num, false), (.int .i64 v24.1.den, false)]]⟩ = some (.exit 0, ⟨[(0, sl 2 vunit a0, false), (1, .int .u8 a1, false), (7, .int .i64 (wrapF .i64 (1 + v12)), false), (8, .ptr 0 0, false), (10, .ptr 1 0, false), (133, sl 2 vunit a0, false), (134, .int .i64 ((a0.getD []).length : Int), false), (135, .int .i64 d113, false), (136, .bool false, false)], [.cells [(sl 1 vint v16.1.least, false), (sl 1 vint v16.1.most, false)], .cells [(sl 1 vint v18.1.least, false), (sl 1 vint v18.1.most, false)], .cells [(sl 1 vint v22.1.least, false), (sl 1 vint v22.1.most, false)], .cells [(.int .i64 v24.1.num, false), (.int .i64 v24.1.den, false)]]⟩) := l7_0 a0 a1 v12 v16 v18 v22 v24 h111
                            rcases cond_split h with ⟨h114, h⟩ | ⟨h114, h⟩
                            · have hr : true = r := Option.some.inj h
                              subst hr
                              have this : ∃ hh, callFn pr (X pr) 7 [sl 2 vunit a0, .int .u8 a1, .int .u8 a2] [] = some (.bool true, false, hh) := by
                                rw [callFn_at (show pr.fns 7 = some c7 from rfl) (by simp)]
                                simp only [go_sem, c7, wh2, h3, h4, h5, wh7, h8, wh10, h11, b_rem_O h13, wh15, wh17, wh19, wh21, wh23, wh25, h26, wh28, h29, wh31, h32, wh34, h35, h36, idxR_O h38, h39, h40, wh111, h114, reduceIte, Nat.reduceEqDiff, Nat.reduceAdd, Nat.reduceSub, Nat.reduceLT, Nat.reduceLeDiff, Nat.reduceMul, Int.reduceLT, Int.reduceLE, Int.reduceEq, Int.reduceNe, Int.reduceAdd, Int.reduceSub, Int.reduceNeg, Int.reduceMul]
                                exact ⟨_, rfl⟩
                              obtain ⟨hh, this⟩ := this
                              exact callIso_of rfl this (by simp only [go_sem, reduceIte, Nat.reduceEqDiff, Nat.reduceAdd, Nat.reduceSub, Nat.reduceLT, Nat.reduceLeDiff, Nat.reduceMul, Int.reduceLT, Int.reduceLE, Int.reduceEq, Int.reduceNe, Int.reduceAdd, Int.reduceSub, Int.reduceNeg, Int.reduceMul]) (by simp only [go_sem, reduceIte, Nat.reduceEqDiff, Nat.reduceAdd, Nat.reduceSub, Nat.reduceLT, Nat.reduceLeDiff, Nat.reduceMul, Int.reduceLT, Int.reduceLE, Int.reduceEq, Int.reduceNe, Int.reduceAdd, Int.reduceSub, Int.reduceNeg, Int.reduceMul])
                            · obtain ⟨v115, h116, h⟩ := obind_some h
                              obtain ⟨v117, h118, h⟩ := obind_some h
                              have wh118 : callIso pr (X pr) 18 [sl 2 vunit v115] = some (sl 2 vunit v117, (accO (v115.getD []))) := WE18 h118
                              obtain ⟨v119, h120, h⟩ := obind_some h
                              obtain ⟨v121, h122, h⟩ := obind_some h
                              have wh122 : callIso pr (X pr) 17 [sl 2 vunit v117, .int .i64 v119] = some (.tup [.agg [sl 1 vint v121.1.least, sl 1 vint v121.1.most], .int .i64 v121.2], false) := WE17 h122
                              rcases cond_split h with ⟨h123, h⟩ | ⟨h123, h⟩
                              · rcases cond_split h with ⟨h124, h⟩ | ⟨h124, h⟩
                                · rcases cond_split h with ⟨h125, h⟩ | ⟨h125, h⟩
                                  · obtain ⟨d159, h160, h⟩ := obind_some h
                                    rcases d159 with d161 | d162
                                    · have wh160 : X pr (.loop c7_1) ⟨[(8, .ptr 0 0, false), (24, .ptr 4 0, false), (234, .int .i64 ((v16.1.least.getD []).length : Int), false), (235, .int .i64 0, false)], [.cells [(sl 1 vint v16.1.least, false), (sl 1 vint v16.1.most, false)], .cells [(sl 1 vint v18.1.least, false), (sl 1 vint v18.1.most, false)], .cells [(sl 1 vint v22.1.least, false), (sl 1 vint v22.1.most, false)], .cells [(.int .i64 v24.1.num, false), (.int .i64 v24.1.den, false)], .cells [(sl 1 vint v121.1.least, false), (sl 1 vint v121.1.most, false)]]⟩ = some (.ret, ⟨[(6, .bool false, false)], [.cells [(sl 1 vint v16.1.least, false), (sl 1 vint v16.1.most, false)], .cells [(sl 1 vint v18.1.least, false), (sl 1 vint v18.1.most, false)], .cells [(sl 1 vint v22.1.least, false), (sl 1 vint v22.1.most, false)], .cells [(.int .i64 v24.1.num, false), (.int .i64 v24.1.den, false)], .cells [(sl 1 vint v121.1.least, false), (sl 1 vint v121.1.most, false)]]⟩) := l7_1 v16 v18 v22 v24 v121 h160
                                      have hr : false = r := Option.some.inj h
                                      subst hr
                                      have this : ∃ hh, callFn pr (X pr) 7 [sl 2 vunit a0, .int .u8 a1, .int .u8 a2] [] = some (.bool false, false, hh) := by
                                        rw [callFn_at (show pr.fns 7 = some c7 from rfl) (by simp)]
                                        simp only [go_sem, c7, wh2, h3, h4, h5, wh7, h8, wh10, h11, b_rem_O h13, wh15, wh17, wh19, wh21, wh23, wh25, h26, wh28, h29, wh31, h32, wh34, h35, h36, idxR_O h38, h39, h40, wh111, h114, slCut_l h116, wh118, b_quo_O h120, wh122, h123, h124, h125, wh160, reduceIte, Nat.reduceEqDiff, Nat.reduceAdd, Nat.reduceSub, Nat.reduceLT, Nat.reduceLeDiff, Nat.reduceMul, Int.reduceLT, Int.reduceLE, Int.reduceEq, Int.reduceNe, Int.reduceAdd, Int.reduceSub, Int.reduceNeg, Int.reduceMul]
                                        exact ⟨_, rfl⟩
                                      obtain ⟨hh, this⟩ := this
                                      exact callIso_of rfl this (by simp only [go_sem, reduceIte, Nat.reduceEqDiff, Nat.reduceAdd, Nat.reduceSub, Nat.reduceLT, Nat.reduceLeDiff, Nat.reduceMul, Int.reduceLT, Int.reduceLE, Int.reduceEq, Int.reduceNe, Int.reduceAdd, Int.reduceSub, Int.reduceNeg, Int.reduceMul]) (by simp only [go_sem, reduceIte, Nat.reduceEqDiff, Nat.reduceAdd, Nat.reduceSub, Nat.reduceLT, Nat.reduceLeDiff, Nat.reduceMul, Int.reduceLT, Int.reduceLE, Int.reduceEq, Int.reduceNe, Int.reduceAdd, Int.reduceSub, Int.reduceNeg, Int.reduceMul])
                                    · have wh160 : X pr (.loop c7_1) ⟨[(8, .ptr 0 0, false), (24, .ptr 4 0, false), (234, .int .i64 ((v16.1.least.getD []).length : Int), false), (235, .int .i64 0, false)], [.cells [(sl 1 vint v16.1.least, false), (sl 1 vint v16.1.most, false)], .cells [(sl 1 vint v18.1.least, false), (sl 1 vint v18.1.most, false)], .cells [(sl 1 vint v22.1.least, false), (sl 1 vint v22.1.most, false)], .cells [(.int .i64 v24.1.num, false), (.int .i64 v24.1.den, false)], .cells [(sl 1 vint v121.1.least, false), (sl 1 vint v121.1.most, false)]]⟩ = some (.exit 2, ⟨[(8, .ptr 0 0, false), (24, .ptr 4 0, false), (234, .int .i64 ((v16.1.least.getD []).length : Int), false), (235, .int .i64 d162, false), (236, .bool false, false)], [.cells [(sl 1 vint v16.1.least, false), (sl 1 vint v16.1.most, false)], .cells [(sl 1 vint v18.1.least, false), (sl 1 vint v18.1.most, false)], .cells [(sl 1 vint v22.1.least, false), (sl 1 vint v22.1.most, false)], .cells [(.int .i64 v24.1.num, false), (.int .i64 v24.1.den, false)], .cells [(sl 1 vint v121.1.least, false), (sl 1 vint v121.1.most, false)]]⟩) := l7_1 v16 v18 v22 v24 v121 h160
                                      have hr : true = r := Option.some.inj h
                                      subst hr
                                      have this : ∃ hh, callFn pr (X pr) 7 [sl 2 vunit a0, .int .u8 a1, .int .u8 a2] [] = some (.bool true, false, hh) := by
                                        rw [callFn_at (show pr.fns 7 = some c7 from rfl) (by simp)]
                                        simp only [go_sem, c7, wh2, h3, h4, h5, wh7, h8, wh10, h11, b_rem_O h13, wh15, wh17, wh19, wh21, wh23, wh25, h26, wh28, h29, wh31, h32, wh34, h35, h36, idxR_O h38, h39, h40, wh111, h114, slCut_l h116, wh118, b_quo_O h120, wh122, h123, h124, h125, wh160, reduceIte, Nat.reduceEqDiff, Nat.reduceAdd, Nat.reduceSub, Nat.reduceLT, Nat.reduceLeDiff, Nat.reduceMul, Int.reduceLT, Int.reduceLE, Int.reduceEq, Int.reduceNe, Int.reduceAdd, Int.reduceSub, Int.reduceNeg, Int.reduceMul]
                                        exact ⟨_, rfl⟩
                                      obtain ⟨hh, this⟩ := this
                                      exact callIso_of rfl this (by simp only [go_sem, reduceIte, Nat.reduceEqDiff, Nat.reduceAdd, Nat.reduceSub, Nat.reduceLT, Nat.reduceLeDiff, Nat.reduceMul, Int.reduceLT, Int.reduceLE, Int.reduceEq, Int.reduceNe, Int.reduceAdd, Int.reduceSub, Int.reduceNeg, Int.reduceMul]) (by simp only [go_sem, reduceIte, Nat.reduceEqDiff, Nat.reduceAdd, Nat.reduceSub, Nat.reduceLT, Nat.reduceLeDiff, Nat.reduceMul, Int.reduceLT, Int.reduceLE, Int.reduceEq, Int.reduceNe, Int.reduceAdd, Int.reduceSub, Int.reduceNeg, Int.reduceMul])
                                  · have hr : false = r := Option.some.inj h
                                    subst hr
                                    have this : ∃ hh, callFn pr (X pr) 7 [sl 2 vunit a0, .int .u8 a1, .int .u8 a2] [] = some (.bool false, false, hh) := by
                                      rw [callFn_at (show pr.fns 7 = some c7 from rfl) (by simp)]
                                      simp only [go_sem, c7, wh2, h3, h4, h5, wh7, h8, wh10, h11, b_rem_O h13, wh15, wh17, wh19, wh21, wh23, wh25, h26, wh28, h29, wh31, h32, wh34, h35, h36, idxR_O h38, h39, h40, wh111, h114, slCut_l h116, wh118, b_quo_O h120, wh122, h123, h124, h125, reduceIte, Nat.reduceEqDiff, Nat.reduceAdd, Nat.reduceSub, Nat.reduceLT, Nat.reduceLeDiff, Nat.reduceMul, Int.reduceLT, Int.reduceLE, Int.reduceEq, Int.reduceNe, Int.reduceAdd, Int.reduceSub, Int.reduceNeg, Int.reduceMul]
                                      exact ⟨_, rfl⟩
                                    obtain ⟨hh, this⟩ := this
                                    exact callIso_of rfl this (by simp only [go_sem, reduceIte, Nat.reduceEqDiff, Nat.reduceAdd, Nat.reduceSub, Nat.reduceLT, Nat.reduceLeDiff, Nat.reduceMul, Int.reduceLT, Int.reduceLE, Int.reduceEq, Int.reduceNe, Int.reduceAdd, Int.reduceSub, Int.reduceNeg, Int.reduceMul]) (by simp only [go_sem, reduceIte, Nat.reduceEqDiff, Nat.reduceAdd, Nat.reduceSub, Nat.reduceLT, Nat.reduceLeDiff, Nat.reduceMul, Int.reduceLT, Int.reduceLE, Int.reduceEq, Int.reduceNe, Int.reduceAdd, Int.reduceSub, Int.reduceNeg, Int.reduceMul])
                                · have hr : false = r := Option.some.inj h
                                  subst hr
                                  have this : ∃ hh, callFn pr (X pr) 7 [sl 2 vunit a0, .int .u8 a1, .int .u8 a2] [] = some (.bool false, false, hh) := by
                                    rw [callFn_at (show pr.fns 7 = some c7 from rfl) (by simp)]
                                    simp only [go_sem, c7, wh2, h3, h4, h5, wh7, h8, wh10, h11, b_rem_O h13, wh15, wh17, wh19, wh21, wh23, wh25, h26, wh28, h29, wh31, h32, wh34, h35, h36, idxR_O h38, h39, h40, wh111, h114, slCut_l h116, wh118, b_quo_O h120, wh122, h123, h124, reduceIte, Nat.reduceEqDiff, Nat.reduceAdd, Nat.reduceSub, Nat.reduceLT, Nat.reduceLeDiff, Nat.reduceMul, Int.reduceLT, Int.reduceLE, Int.reduceEq, Int.reduceNe, Int.reduceAdd, Int.reduceSub, Int.reduceNeg, Int.reduceMul]
                                    exact ⟨_, rfl⟩
                                  obtain ⟨hh, this⟩ := this
                                  exact callIso_of rfl this (by simp only [go_sem, reduceIte, Nat.reduceEqDiff, Nat.reduceAdd, Nat.reduceSub, Nat.reduceLT, Nat.reduceLeDiff, Nat.reduceMul, Int.reduceLT, Int.reduceLE, Int.reduceEq, Int.reduceNe, Int.reduceAdd, Int.reduceSub, Int.reduceNeg, Int.reduceMul]) (by simp only [go_sem, reduceIte, Nat.reduceEqDiff, Nat.reduceAdd, Nat.reduceSub, Nat.reduceLT, Nat.reduceLeDiff, Nat.reduceMul, Int.reduceLT, Int.reduceLE, Int.reduceEq, Int.reduceNe, Int.reduceAdd, Int.reduceSub, Int.reduceNeg, Int.reduceMul])
                              · have hr : false = r := Option.some.inj h
                                subst hr
                                have this : ∃ hh, callFn pr (X pr) 7 [sl 2 vunit a0, .int .u8 a1, .int .u8 a2] [] = some (.bool false, false, hh) := by
                                  rw [callFn_at (show pr.fns 7 = some c7 from rfl) (by simp)]
                                  simp only [go_sem, c7, wh2, h3, h4, h5, wh7, h8, wh10, h11, b_rem_O h13, wh15, wh17, wh19, wh21, wh23, wh25, h26, wh28, h29, wh31, h32, wh34, h35, h36, idxR_O h38, h39, h40, wh111, h114, slCut_l h116, wh118, b_quo_O h120, wh122, h123, reduceIte, Nat.reduceEqDiff, Nat.reduceAdd, Nat.reduceSub, Nat.reduceLT, Nat.reduceLeDiff, Nat.reduceMul, Int.reduceLT, Int.reduceLE, Int.reduceEq, Int.reduceNe, Int.reduceAdd, Int.reduceSub, Int.reduceNeg, Int.reduceMul]
                                  exact ⟨_, rfl⟩
                                obtain ⟨hh, this⟩ := this
                                exact callIso_of rfl this (by simp only [go_sem, reduceIte, Nat.reduceEqDiff, Nat.reduceAdd, Nat.reduceSub, Nat.reduceLT, Nat.reduceLeDiff, Nat.reduceMul, Int.reduceLT, Int.reduceLE, Int.reduceEq, Int.reduceNe, Int.reduceAdd, Int.reduceSub, Int.reduceNeg, Int.reduceMul]) (by simp only [go_sem, reduceIte, Nat.reduceEqDiff, Nat.reduceAdd, Nat.reduceSub, Nat.reduceLT, Nat.reduceLeDiff, Nat.reduceMul, Int.reduceLT, Int.reduceLE, Int.reduceEq, Int.reduceNe, Int.reduceAdd, Int.reduceSub, Int.reduceNeg, Int.reduceMul])
                        · have hr : false = r := Option.some.inj h
                          subst hr
                          have this : ∃ hh, callFn pr (X pr) 7 [sl 2 vunit a0, .int .u8 a1, .int .u8 a2] [] = some (.bool false, false, hh) := by
                            rw [callFn_at (show pr.fns 7 = some c7 from rfl) (by simp)]
                            simp only [go_sem, c7, wh2, h3, h4, h5, wh7, h8, wh10, h11, b_rem_O h13, wh15, wh17, wh19, wh21, wh23, wh25, h26, wh28, h29, wh31, h32, wh34, h35, h36, idxR_O h38, h39, h40, reduceIte, Nat.reduceEqDiff, Nat.reduceAdd, Nat.reduceSub, Nat.reduceLT, Nat.reduceLeDiff, Nat.reduceMul, Int.reduceLT, Int.reduceLE, Int.reduceEq, Int.reduceNe, Int.reduceAdd, Int.reduceSub, Int.reduceNeg, Int.reduceMul]
                            exact ⟨_, rfl⟩
                          obtain ⟨hh, this⟩ := this
                          exact callIso_of rfl this (by simp only [go_sem, reduceIte, Nat.reduceEqDiff, Nat.reduceAdd, Nat.reduceSub, Nat.reduceLT, Nat.reduceLeDiff, Nat.reduceMul, Int.reduceLT, Int.reduceLE, Int.reduceEq, Int.reduceNe, Int.reduceAdd, Int.reduceSub, Int.reduceNeg, Int.reduceMul]) (by simp only [go_sem, reduceIte, Nat.reduceEqDiff, Nat.reduceAdd, Nat.reduceSub, Nat.reduceLT, Nat.reduceLeDiff, Nat.reduceMul, Int.reduceLT, Int.reduceLE, Int.reduceEq, Int.reduceNe, Int.reduceAdd, Int.reduceSub, Int.reduceNeg, Int.reduceMul])
                      · have hr : false = r := Option.some.inj h
                        subst hr
                        have this : ∃ hh, callFn pr (X pr) 7 [sl 2 vunit a0, .int .u8 a1, .int .u8 a2] [] = some (.bool false, false, hh) := by
                          rw [callFn_at (show pr.fns 7 = some c7 from rfl) (by simp)]
                          simp only [go_sem, c7, wh2, h3, h4, h5, wh7, h8, wh10, h11, b_rem_O h13, wh15, wh17, wh19, wh21, wh23, wh25, h26, wh28, h29, wh31, h32, wh34, h35, h36, idxR_O h38, h39, reduceIte, Nat.reduceEqDiff, Nat.reduceAdd, Nat.reduceSub, Nat.reduceLT, Nat.reduceLeDiff, Nat.reduceMul, Int.reduceLT, Int.reduceLE, Int.reduceEq, Int.reduceNe, Int.reduceAdd, Int.reduceSub, Int.reduceNeg, Int.reduceMul]
                          exact ⟨_, rfl⟩
                        obtain ⟨hh, this⟩ := this
                        exact callIso_of rfl this (by simp only [go_sem, reduceIte, Nat.reduceEqDiff, Nat.reduceAdd, Nat.reduceSub, Nat.reduceLT, Nat.reduceLeDiff, Nat.reduceMul, Int.reduceLT, Int.reduceLE, Int.reduceEq, Int.reduceNe, Int.reduceAdd, Int.reduceSub, Int.reduceNeg, Int.reduceMul]) (by simp only [go_sem, reduceIte, Nat.reduceEqDiff, Nat.reduceAdd, Nat.reduceSub, Nat.reduceLT, Nat.reduceLeDiff, Nat.reduceMul, Int.reduceLT, Int.reduceLE, Int.reduceEq, Int.reduceNe, Int.reduceAdd, Int.reduceSub, Int.reduceNeg, Int.reduceMul])
                    · have hr : false = r := Option.some.inj h
                      subst hr
                      have this : ∃ hh, callFn pr (X pr) 7 [sl 2 vunit a0, .int .u8 a1, .int .u8 a2] [] = some (.bool false, false, hh) := by
                        rw [callFn_at (show pr.fns 7 = some c7 from rfl) (by simp)]
                        simp only [go_sem, c7, wh2, h3, h4, h5, wh7, h8, wh10, h11, b_rem_O h13, wh15, wh17, wh19, wh21, wh23, wh25, h26, wh28, h29, wh31, h32, wh34, h35, h36, reduceIte, Nat.reduceEqDiff, Nat.reduceAdd, Nat.reduceSub, Nat.reduceLT, Nat.reduceLeDiff, Nat.reduceMul, Int.reduceLT, Int.reduceLE, Int.reduceEq, Int.reduceNe, Int.reduceAdd, Int.reduceSub, Int.reduceNeg, Int.reduceMul]
                        exact ⟨_, rfl⟩
                      obtain ⟨hh, this⟩ := this
                      exact callIso_of rfl this (by simp only [go_sem, reduceIte, Nat.reduceEqDiff, Nat.reduceAdd, Nat.reduceSub, Nat.reduceLT, Nat.reduceLeDiff, Nat.reduceMul, Int.reduceLT, Int.reduceLE, Int.reduceEq, Int.reduceNe, Int.reduceAdd, Int.reduceSub, Int.reduceNeg, Int.reduceMul]) (by simp only [go_sem, reduceIte, Nat.reduceEqDiff, Nat.reduceAdd, Nat.reduceSub, Nat.reduceLT, Nat.reduceLeDiff, Nat.reduceMul, Int.reduceLT, Int.reduceLE, Int.reduceEq, Int.reduceNe, Int.reduceAdd, Int.reduceSub, Int.reduceNeg, Int.reduceMul])
                  · have hr : false = r := Option.some.inj h
                    subst hr
                    have this : ∃ hh, callFn pr (X pr) 7 [sl 2 vunit a0, .int .u8 a1, .int .u8 a2] [] = some (.bool false, false, hh) := by
                      rw [callFn_at (show pr.fns 7 = some c7 from rfl) (by simp)]
                      simp only [go_sem, c7, wh2, h3, h4, h5, wh7, h8, wh10, h11, b_rem_O h13, wh15, wh17, wh19, wh21, wh23, wh25, h26, wh28, h29, wh31, h32, wh34, h35, reduceIte, Nat.reduceEqDiff, Nat.reduceAdd, Nat.reduceSub, Nat.reduceLT, Nat.reduceLeDiff, Nat.reduceMul, Int.reduceLT, Int.reduceLE, Int.reduceEq, Int.reduceNe, Int.reduceAdd, Int.reduceSub, Int.reduceNeg, Int.reduceMul]
                      exact ⟨_, rfl⟩
                    obtain ⟨hh, this⟩ := this
                    exact callIso_of rfl this (by simp only [go_sem, reduceIte, Nat.reduceEqDiff, Nat.reduceAdd, Nat.reduceSub, Nat.reduceLT, Nat.reduceLeDiff, Nat.reduceMul, Int.reduceLT, Int.reduceLE, Int.reduceEq, Int.reduceNe, Int.reduceAdd, Int.reduceSub, Int.reduceNeg, Int.reduceMul]) (by simp only [go_sem, reduceIte, Nat.reduceEqDiff, Nat.reduceAdd, Nat.reduceSub, Nat.reduceLT, Nat.reduceLeDiff, Nat.reduceMul, Int.reduceLT, Int.reduceLE, Int.reduceEq, Int.reduceNe, Int.reduceAdd, Int.reduceSub, Int.reduceNeg, Int.reduceMul])
                · have hr : false = r := Option.some.inj h
                  subst hr
                  have this : ∃ hh, callFn pr (X pr) 7 [sl 2 vunit a0, .int .u8 a1, .int .u8 a2] [] = some (.bool false, false, hh) := by
                    rw [callFn_at (show pr.fns 7 = some c7 from rfl) (by simp)]
                    simp only [go_sem, c7, wh2, h3, h4, h5, wh7, h8, wh10, h11, b_rem_O h13, wh15, wh17, wh19, wh21, wh23, wh25, h26, wh28, h29, wh31, h32, reduceIte, Nat.reduceEqDiff, Nat.reduceAdd, Nat.reduceSub, Nat.reduceLT, Nat.reduceLeDiff, Nat.reduceMul, Int.reduceLT, Int.reduceLE, Int.reduceEq, Int.reduceNe, Int.reduceAdd, Int.reduceSub, Int.reduceNeg, Int.reduceMul]
                    exact ⟨_, rfl⟩
                  obtain ⟨hh, this⟩ := this
                  exact callIso_of rfl this (by simp only [go_sem, reduceIte, Nat.reduceEqDiff, Nat.reduceAdd, Nat.reduceSub, Nat.reduceLT, Nat.reduceLeDiff, Nat.reduceMul, Int.reduceLT, Int.reduceLE, Int.reduceEq, Int.reduceNe, Int.reduceAdd, Int.reduceSub, Int.reduceNeg, Int.reduceMul]) (by simp only [go_sem, reduceIte, Nat.reduceEqDiff, Nat.reduceAdd, Nat.reduceSub, Nat.reduceLT, Nat.reduceLeDiff, Nat.reduceMul, Int.reduceLT, Int.reduceLE, Int.reduceEq, Int.reduceNe, Int.reduceAdd, Int.reduceSub, Int.reduceNeg, Int.reduceMul])
              · have hr : false = r := Option.some.inj h
                subst hr
                have this : ∃ hh, callFn pr (X pr) 7 [sl 2 vunit a0, .int .u8 a1, .int .u8 a2] [] = some (.bool false, false, hh) := by
                  rw [callFn_at (show pr.fns 7 = some c7 from rfl) (by simp)]
                  simp only [go_sem, c7, wh2, h3, h4, h5, wh7, h8, wh10, h11, b_rem_O h13, wh15, wh17, wh19, wh21, wh23, wh25, h26, wh28, h29, reduceIte, Nat.reduceEqDiff, Nat.reduceAdd, Nat.reduceSub, Nat.reduceLT, Nat.reduceLeDiff, Nat.reduceMul, Int.reduceLT, Int.reduceLE, Int.reduceEq, Int.reduceNe, Int.reduceAdd, Int.reduceSub, Int.reduceNeg, Int.reduceMul]
                  exact ⟨_, rfl⟩
                obtain ⟨hh, this⟩ := this
                exact callIso_of rfl this (by simp only [go_sem, reduceIte, Nat.reduceEqDiff, Nat.reduceAdd, Nat.reduceSub, Nat.reduceLT, Nat.reduceLeDiff, Nat.reduceMul, Int.reduceLT, Int.reduceLE, Int.reduceEq, Int.reduceNe, Int.reduceAdd, Int.reduceSub, Int.reduceNeg, Int.reduceMul]) (by simp only [go_sem, reduceIte, Nat.reduceEqDiff, Nat.reduceAdd, Nat.reduceSub, Nat.reduceLT, Nat.reduceLeDiff, Nat.reduceMul, Int.reduceLT, Int.reduceLE, Int.reduceEq, Int.reduceNe, Int.reduceAdd, Int.reduceSub, Int.reduceNeg, Int.reduceMul])
            · have hr : false = r := Option.some.inj h
              subst hr
              have this : ∃ hh, callFn pr (X pr) 7 [sl 2 vunit a0, .int .u8 a1, .int .u8 a2] [] = some (.bool false, false, hh) := by
                rw [callFn_at (show pr.fns 7 = some c7 from rfl) (by simp)]
                simp only [go_sem, c7, wh2, h3, h4, h5, wh7, h8, wh10, h11, b_rem_O h13, wh15, wh17, wh19, wh21, wh23, wh25, h26, reduceIte, Nat.reduceEqDiff, Nat.reduceAdd, Nat.reduceSub, Nat.reduceLT, Nat.reduceLeDiff, Nat.reduceMul, Int.reduceLT, Int.reduceLE, Int.reduceEq, Int.reduceNe, Int.reduceAdd, Int.reduceSub, Int.reduceNeg, Int.reduceMul]
                exact ⟨_, rfl⟩
              obtain ⟨hh, this⟩ := this
              exact callIso_of rfl this (by simp only [go_sem, reduceIte, Nat.reduceEqDiff, Nat.reduceAdd, Nat.reduceSub, Nat.reduceLT, Nat.reduceLeDiff, Nat.reduceMul, Int.reduceLT, Int.reduceLE, Int.reduceEq, Int.reduceNe, Int.reduceAdd, Int.reduceSub, Int.reduceNeg, Int.reduceMul]) (by simp only [go_sem, reduceIte, Nat.reduceEqDiff, Nat.reduceAdd, Nat.reduceSub, Nat.reduceLT, Nat.reduceLeDiff, Nat.reduceMul, Int.reduceLT, Int.reduceLE, Int.reduceEq, Int.reduceNe, Int.reduceAdd, Int.reduceSub, Int.reduceNeg, Int.reduceMul])
          · have hr : v1 = r := Option.some.inj h
            subst hr
            have this : ∃ hh, callFn pr (X pr) 7 [sl 2 vunit a0, .int .u8 a1, .int .u8 a2] [] = some (.bool v1, false, hh) := by
              rw [callFn_at (show pr.fns 7 = some c7 from rfl) (by simp)]
              simp only [go_sem, c7, wh2, h3, h4, h5, wh7, h8, wh10, h11, reduceIte, Nat.reduceEqDiff, Nat.reduceAdd, Nat.reduceSub, Nat.reduceLT, Nat.reduceLeDiff, Nat.reduceMul, Int.reduceLT, Int.reduceLE, Int.reduceEq, Int.reduceNe, Int.reduceAdd, Int.reduceSub, Int.reduceNeg, Int.reduceMul]
              exact ⟨_, rfl⟩
            obtain ⟨hh, this⟩ := this
            exact callIso_of rfl this (by simp only [go_sem, reduceIte, Nat.reduceEqDiff, Nat.reduceAdd, Nat.reduceSub, Nat.reduceLT, Nat.reduceLeDiff, Nat.reduceMul, Int.reduceLT, Int.reduceLE, Int.reduceEq, Int.reduceNe, Int.reduceAdd, Int.reduceSub, Int.reduceNeg, Int.reduceMul]) (by simp only [go_sem, reduceIte, Nat.reduceEqDiff, Nat.reduceAdd, Nat.reduceSub, Nat.reduceLT, Nat.reduceLeDiff, Nat.reduceMul, Int.reduceLT, Int.reduceLE, Int.reduceEq, Int.reduceNe, Int.reduceAdd, Int.reduceSub, Int.reduceNeg, Int.reduceMul])
        · have hr : v1 = r := Option.some.inj h
          subst hr
          have this : ∃ hh, callFn pr (X pr) 7 [sl 2 vunit a0, .int .u8 a1, .int .u8 a2] [] = some (.bool v1, false, hh) := by
            rw [callFn_at (show pr.fns 7 = some c7 from rfl) (by simp)]
            simp only [go_sem, c7, wh2, h3, h4, h5, wh7, h8, reduceIte, Nat.reduceEqDiff, Nat.reduceAdd, Nat.reduceSub, Nat.reduceLT, Nat.reduceLeDiff, Nat.reduceMul, Int.reduceLT, Int.reduceLE, Int.reduceEq, Int.reduceNe, Int.reduceAdd, Int.reduceSub, Int.reduceNeg, Int.reduceMul]
            exact ⟨_, rfl⟩
          obtain ⟨hh, this⟩ := this
          exact callIso_of rfl this (by simp only [go_sem, reduceIte, Nat.reduceEqDiff, Nat.reduceAdd, Nat.reduceSub, Nat.reduceLT, Nat.reduceLeDiff, Nat.reduceMul, Int.reduceLT, Int.reduceLE, Int.reduceEq, Int.reduceNe, Int.reduceAdd, Int.reduceSub, Int.reduceNeg, Int.reduceMul]) (by simp only [go_sem, reduceIte, Nat.reduceEqDiff, Nat.reduceAdd, Nat.reduceSub, Nat.reduceLT, Nat.reduceLeDiff, Nat.reduceMul, Int.reduceLT, Int.reduceLE, Int.reduceEq, Int.reduceNe, Int.reduceAdd, Int.reduceSub, Int.reduceNeg, Int.reduceMul])
  · have hr : v1 = r := Option.some.inj h
    subst hr
    have this : ∃ hh, callFn pr (X pr) 7 [sl 2 vunit a0, .int .u8 a1, .int .u8 a2] [] = some (.bool v1, false, hh) := by
      rw [callFn_at (show pr.fns 7 = some c7 from rfl) (by simp)]
      simp only [go_sem, c7, wh2, h3, reduceIte, Nat.reduceEqDiff, Nat.reduceAdd, Nat.reduceSub, Nat.reduceLT, Nat.reduceLeDiff, Nat.reduceMul, Int.reduceLT, Int.reduceLE, Int.reduceEq, Int.reduceNe, Int.reduceAdd, Int.reduceSub, Int.reduceNeg, Int.reduceMul]
      exact ⟨_, rfl⟩
    obtain ⟨hh, this⟩ := this
    exact callIso_of rfl this (by simp only [go_sem, reduceIte, Nat.reduceEqDiff, Nat.reduceAdd, Nat.reduceSub, Nat.reduceLT, Nat.reduceLeDiff, Nat.reduceMul, Int.reduceLT, Int.reduceLE, Int.reduceEq, Int.reduceNe, Int.reduceAdd, Int.reduceSub, Int.reduceNeg, Int.reduceMul]) (by simp only [go_sem, reduceIte, Nat.reduceEqDiff, Nat.reduceAdd, Nat.reduceSub, Nat.reduceLT, Nat.reduceLeDiff, Nat.reduceMul, Int.reduceLT, Int.reduceLE, Int.reduceEq, Int.reduceNe, Int.reduceAdd, Int.reduceSub, Int.reduceNeg, Int.reduceMul])
end Go.Z
