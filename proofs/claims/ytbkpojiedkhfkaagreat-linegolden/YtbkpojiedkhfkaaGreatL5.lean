/-
  The checks of units and masks: their runs.
-/
import Derived.Test.YtbkpojiedkhfkaaGreatL4
set_option linter.unusedVariables false
set_option linter.unusedSimpArgs false
set_option maxRecDepth 100000
set_option linter.unusedSimpArgs false
namespace Go.Z
open Go Go.Abs
@[go_sem] theorem afterShared_same {h : Heap} {v : AVal} : afterShared h.length v h = h := by
  unfold afterShared; rw [Nat.ble_eq_true_of_le (Nat.le_refl _)]; rfl
@[go_sem] theorem afterShared_nil {v : AVal} : afterShared 0 v [] = [] := rfl
theorem I94_2 (a b : Int) : callIso pr (X pr) 94 [.list false 1 [.int .i64 a, .int .i64 b]] = some (.int .i64 (firstNZ [a, b]), false) := I94c [a, b] (by simp)
theorem I94_3 (a b c : Int) : callIso pr (X pr) 94 [.list false 1 [.int .i64 a, .int .i64 b, .int .i64 c]] = some (.int .i64 (firstNZ [a, b, c]), false) := I94c [a, b, c] (by simp)
theorem I94_4 (a b c d : Int) : callIso pr (X pr) 94 [.list false 1 [.int .i64 a, .int .i64 b, .int .i64 c, .int .i64 d]] = some (.int .i64 (firstNZ [a, b, c, d]), false) := I94c [a, b, c, d] (by simp)
theorem I87_2 (a b : Int) : callIso pr (X pr) 87 [.list false 1 [.int .i64 a, .int .i64 b]] = some (.int .i64 (firstNZ [a, b]), false) := I87 [a, b] (by simp)
theorem I87_3 (a b c : Int) : callIso pr (X pr) 87 [.list false 1 [.int .i64 a, .int .i64 b, .int .i64 c]] = some (.int .i64 (firstNZ [a, b, c]), false) := I87 [a, b, c] (by simp)
theorem I21_2 (a b : Int) : callIso pr (X pr) 21 [.list false 1 [.int .i64 a, .int .i64 b]] = some (.int .i64 (firstNZ [a, b]), false) := I21 [a, b] (by simp)
theorem I21_3 (a b c : Int) : callIso pr (X pr) 21 [.list false 1 [.int .i64 a, .int .i64 b, .int .i64 c]] = some (.int .i64 (firstNZ [a, b, c]), false) := I21 [a, b, c] (by simp)
def unitA (u : GUnit) : Int := firstNZ [whenE (!isName u.serial) 8, whenE (decide (((u.values.getD []).length : Int) = 0)) 12, whenE (decide ((16 : Int) < ((u.values.getD []).length : Int))) 5]
def unitE (u : GUnit) : Int := firstNZ [whenE (!isName u.serial) 8, whenE (decide (((u.values.getD []).length : Int) = 0)) 12, whenE (decide ((16 : Int) < ((u.values.getD []).length : Int))) 5, checkEach (-100000) 100000 (u.values.getD [])]
theorem unitE_eq (u : GUnit) : unitE u = if unitA u = 0 then checkEach (-100000) 100000 (u.values.getD []) else unitA u := by
  simp only [unitE, unitA, firstNZ]
  split <;> try split <;> try split <;> try split <;> simp_all
  all_goals (try split) <;> simp_all
def sizeU (u : GUnit) : Prop := u.serial.length ≤ 1073741824 ∧ (u.values.getD []).length ≤ 1073741824
theorem I95 (u : GUnit) (hu : sizeU u) : callIso pr (X pr) 95 [.agg [.str u.serial, sl 1 vint u.values]] = some (.int .i64 (unitE u), false) := by
  have : ∃ hh, callFn pr (X pr) 95 [.agg [.str u.serial, sl 1 vint u.values]] [] = some (.int .i64 (unitE u), false, hh) := by
    rw [callFn_at (show pr.fns 95 = some c95 from rfl) (by simp)]
    simp only [go_sem, c95, I133 _ (Nat.le_trans hu.1 (by decide)), I96, I82 _ _ _ (Nat.le_trans hu.2 (by decide)), I94_4, reduceIte, Nat.reduceEqDiff, Nat.reduceAdd, Nat.reduceSub, Nat.reduceLT, Nat.reduceLeDiff, Nat.reduceMul, Int.reduceLT, Int.reduceLE, Int.reduceEq, Int.reduceNe, Int.reduceAdd, Int.reduceSub, Int.reduceNeg, Int.reduceMul]
    exact ⟨_, rfl⟩
  obtain ⟨hh, this⟩ := this
  exact callIso_of rfl this rfl rfl
def sizeW (u : GUnit) : Prop := u.serial.length ≤ 9223372036854775807 ∧ (u.values.getD []).length ≤ 9223372036854775807
theorem I95w (u : GUnit) (hu : sizeW u) : callIso pr (X pr) 95 [.agg [.str u.serial, sl 1 vint u.values]] = some (.int .i64 (unitE u), false) := by
  have : ∃ hh, callFn pr (X pr) 95 [.agg [.str u.serial, sl 1 vint u.values]] [] = some (.int .i64 (unitE u), false, hh) := by
    rw [callFn_at (show pr.fns 95 = some c95 from rfl) (by simp)]
    simp only [go_sem, c95, I133 _ hu.1, I96, I82 _ _ _ hu.2, I94_4, reduceIte, Nat.reduceEqDiff, Nat.reduceAdd, Nat.reduceSub, Nat.reduceLT, Nat.reduceLeDiff, Nat.reduceMul, Int.reduceLT, Int.reduceLE, Int.reduceEq, Int.reduceNe, Int.reduceAdd, Int.reduceSub, Int.reduceNeg, Int.reduceMul]
    exact ⟨_, rfl⟩
  obtain ⟨hh, this⟩ := this
  exact callIso_of rfl this rfl rfl
theorem l135 (o : Option (List Int)) (hn : (o.getD []).length ≤ 1073741824) :
    X pr (.loop c135_0) ⟨[(1, .fn (.func 98) [] [], false), (5, .list true 0 [], false), (8, sl 1 vint o, false), (9, .int .i64 ((o.getD []).length : Int), false), (10, .int .i64 0, false)], []⟩ =
      some (.exit 0, ⟨[(1, .fn (.func 98) [] [], false), (5, acc 1 vint ((o.getD []).map fun n => checkRange n (-100000) 100000), accO (o.getD [])), (8, sl 1 vint o, false), (9, .int .i64 ((o.getD []).length : Int), false), (10, .int .i64 ((o.getD []).length : Int), false), (11, .bool false, false)], []⟩) := by
  have := X_loop_list (p := pr) (c := c135_0) (o.getD []) (fun i (s : List Int) => ⟨[(1, .fn (.func 98) [] [], false), (5, acc 1 vint s, accO s), (8, sl 1 vint o, false), (9, .int .i64 ((o.getD []).length : Int), false), (10, .int .i64 (i : Int), false)], []⟩)
    (fun _ s n => .inl (s ++ [checkRange n (-100000) 100000])) (fun s => (.exit 0, ⟨[(1, .fn (.func 98) [] [], false), (5, acc 1 vint s, accO s), (8, sl 1 vint o, false), (9, .int .i64 ((o.getD []).length : Int), false), (10, .int .i64 ((o.getD []).length : Int), false), (11, .bool false, false)], []⟩))
    (fun d : Empty => nomatch d) (fun i s => s.length = i) [] (fun _ h => by cases h) (fun d => nomatch d) ?_ ?_ rfl
  · rw [Int.natCast_zero, runL_map] at this
    rw [outL_inl, List.nil_append, accO_map] at this
    exact this
  · intro s _
    have hlt : ¬ (((o.getD []).length : Int) < ((o.getD []).length : Int)) := by omega
    simp only [go_sem, c135_0, hlt, reduceIte, Nat.reduceEqDiff, Nat.reduceAdd, Nat.reduceSub, Nat.reduceLT, Nat.reduceLeDiff, Nat.reduceMul, Int.reduceLT, Int.reduceLE, Int.reduceEq, Int.reduceNe, Int.reduceAdd, Int.reduceSub, Int.reduceNeg, Int.reduceMul]
  · intro i s x hx hi hs
    have hlt : (i : Int) < ((o.getD []).length : Int) := by omega
    have hw := wrap_succ hi (by omega)
    refine ⟨by simp [hs], ?_⟩
    cases s with
    | nil =>
      refine ⟨_, ?_, gc_same (Nat.le_refl _)⟩
      simp only [go_sem, c135_0, hlt, idx_sl hx, F98, hw, acc, accO, reduceIte, Nat.reduceEqDiff, Nat.reduceAdd, Nat.reduceSub, Nat.reduceLT, Nat.reduceLeDiff, Nat.reduceMul, Int.reduceLT, Int.reduceLE, Int.reduceEq, Int.reduceNe, Int.reduceAdd, Int.reduceSub, Int.reduceNeg, Int.reduceMul]
      rfl
    | cons a s =>
      have h9 : s.length ≤ 1073741822 := by simp at hs; omega
      refine ⟨_, ?_, gc_same (Nat.le_refl _)⟩
      simp only [go_sem, c135_0, hlt, idx_sl hx, F98, hw, acc, accO, List.length_map, h9, List.map_append, reduceIte, Nat.reduceEqDiff, Nat.reduceAdd, Nat.reduceSub, Nat.reduceLT, Nat.reduceLeDiff, Nat.reduceMul, Int.reduceLT, Int.reduceLE, Int.reduceEq, Int.reduceNe, Int.reduceAdd, Int.reduceSub, Int.reduceNeg, Int.reduceMul]
      rfl
theorem I135 (o : Option (List Int)) (hn : (o.getD []).length ≤ 1073741824) : callIso pr (X pr) 135 [sl 1 vint o, .fn (.func 98) [] []] = some (sl 1 vint (nonNil ((o.getD []).map fun n => checkRange n (-100000) 100000)), accO (o.getD [])) := by
  have hc : callFn pr (X pr) 135 [sl 1 vint o, .fn (.func 98) [] []] [] = some (acc 1 vint ((o.getD []).map fun n => checkRange n (-100000) 100000), accO (o.getD []), []) := by
    rw [callFn_at (show pr.fns 135 = some c135 from rfl) (by simp)]
    simp only [go_sem, c135, l135 o hn, reduceIte, Nat.reduceEqDiff, Nat.reduceAdd, Nat.reduceSub, Nat.reduceLT, Nat.reduceLeDiff, Nat.reduceMul, Int.reduceLT, Int.reduceLE, Int.reduceEq, Int.reduceNe, Int.reduceAdd, Int.reduceSub, Int.reduceNeg, Int.reduceMul]
  rw [acc_sl] at hc
  exact callIso_sl rfl hc below_ints
theorem first_each : ∀ l : List Int, firstNZ (l.map fun n => checkRange n (-100000) 100000) = checkEach (-100000) 100000 l
  | [] => rfl
  | n :: l => by
    simp only [List.map_cons, firstNZ, checkEach]
    split
    · exact first_each l
    · next hz =>
      unfold checkRange at hz ⊢
      split
      · rfl
      · split
        · rfl
        · simp_all
theorem I97 (u : GUnit) (hu : sizeU u) : callIso pr (X pr) 97 [.agg [.str u.serial, sl 1 vint u.values]] = some (.int .i64 (unitE u), false) := by
  have : ∃ hh, callFn pr (X pr) 97 [.agg [.str u.serial, sl 1 vint u.values]] [] = some (.int .i64 (unitE u), false, hh) := by
    rw [callFn_at (show pr.fns 97 = some c97 from rfl) (by simp), unitE_eq]
    have h134 := I134 u.serial (Nat.le_trans hu.1 (by decide))
    by_cases hz : unitA u = 0
    · rw [if_pos hz]
      have hne : u.values.getD [] ≠ [] := by
        intro hh
        have : unitA u ≠ 0 := by
          simp only [unitA, hh, firstNZ, whenE]
          cases isName u.serial <;> simp
        exact this hz
      obtain ⟨n, l, hl⟩ : ∃ n l, u.values.getD [] = n :: l := by
        cases hv : u.values.getD [] with
        | nil => exact absurd hv hne
        | cons n l => exact ⟨n, l, rfl⟩
      have h135 := I135 u.values hu.2
      have h87 : callIso pr (X pr) 87 [sl 1 vint (nonNil ((u.values.getD []).map fun n => checkRange n (-100000) 100000))] = some (.int .i64 (checkEach (-100000) 100000 (u.values.getD [])), false) := by
        rw [← first_each, hl]
        exact I87 ((n :: l).map fun n => checkRange n (-100000) 100000) (by rw [List.length_map, ← hl]; have := hu.2; omega)
      have hz' : firstNZ [whenE (!isName u.serial) 8, whenE (decide (((u.values.getD []).length : Int) = 0)) 12, whenE (decide ((16 : Int) < ((u.values.getD []).length : Int))) 5] = 0 := hz
      simp only [go_sem, c97, h134, I89, I87_3, hz', h135, h87, reduceIte, Nat.reduceEqDiff, Nat.reduceAdd, Nat.reduceSub, Nat.reduceLT, Nat.reduceLeDiff, Nat.reduceMul, Int.reduceLT, Int.reduceLE, Int.reduceEq, Int.reduceNe, Int.reduceAdd, Int.reduceSub, Int.reduceNeg, Int.reduceMul]
      exact ⟨_, rfl⟩
    · rw [if_neg hz]
      have hz' : ¬ firstNZ [whenE (!isName u.serial) 8, whenE (decide (((u.values.getD []).length : Int) = 0)) 12, whenE (decide ((16 : Int) < ((u.values.getD []).length : Int))) 5] = 0 := hz
      simp only [go_sem, c97, h134, I89, I87_3, hz', unitA, reduceIte, Nat.reduceEqDiff, Nat.reduceAdd, Nat.reduceSub, Nat.reduceLT, Nat.reduceLeDiff, Nat.reduceMul, Int.reduceLT, Int.reduceLE, Int.reduceEq, Int.reduceNe, Int.reduceAdd, Int.reduceSub, Int.reduceNeg, Int.reduceMul]
      exact ⟨_, rfl⟩
  obtain ⟨hh, this⟩ := this
  exact callIso_of rfl this rfl rfl
end Go.Z
