/-
  The tests that a unit fails: the runs.
-/
import Derived.Test.YtbkpojiedkhfkaaGreatL11
set_option linter.unusedVariables false
set_option linter.unusedSimpArgs false
set_option maxRecDepth 100000
set_option linter.unusedSimpArgs false
namespace Go.Z
open Go Go.Abs
def failsB (x y v : Int) : Bool := decide (v < x) || decide (y < v)
def loM (m : GMask) (t : Nat) : Int := (m.least.getD []).getD t 0
def hiM (m : GMask) (t : Nat) : Int := (m.most.getD []).getD t 0
def failsAt (m : GMask) (t : Nat) (v : Int) : Bool := failsB (loM m t) (hiM m t) v
def failsL (m : GMask) : Nat → List Int → List Int
  | _, [] => []
  | i, v :: l => if failsAt m i v = true then (i : Int) :: failsL m (i + 1) l else failsL m (i + 1) l
theorem loM_get {m : GMask} {t : Nat} (h : t < (m.least.getD []).length) : (m.least.getD [])[t]? = some (loM m t) := by
  simp [loM, List.getD_eq_getElem?_getD, List.getElem?_eq_getElem h]
theorem hiM_get {m : GMask} {t : Nat} (h : t < (m.most.getD []).length) : (m.most.getD [])[t]? = some (hiM m t) := by
  simp [hiM, List.getD_eq_getElem?_getD, List.getElem?_eq_getElem h]
theorem runL_fails (m : GMask) : ∀ (l : List Int) (i : Nat) (s : List Int), runL (δ := Empty) (fun i s v => .inl (if failsAt m i v = true then s ++ [(i : Int)] else s)) i s l = .inl (s ++ failsL m i l)
  | [], i, s => by simp [runL, failsL]
  | v :: l, i, s => by
    simp only [runL, failsL]
    rw [runL_fails m l (i + 1)]
    by_cases h : failsAt m i v = true
    · simp [h]
    · simp [h]
theorem I136 (m : GMask) (t : Nat) (v : Int) (h1 : t < (m.least.getD []).length) (h2 : t < (m.most.getD []).length) :
    callIso pr (X pr) 136 [.agg [sl 1 vint m.least, sl 1 vint m.most], .int .i64 (t : Int), .int .i64 v] = some (.bool (failsAt m t v), false) := by
  have : ∃ hh, callFn pr (X pr) 136 [.agg [sl 1 vint m.least, sl 1 vint m.most], .int .i64 (t : Int), .int .i64 v] [] = some (.bool (failsAt m t v), false, hh) := by
    rw [callFn_at (show pr.fns 136 = some c136 from rfl) (by simp)]
    by_cases hlt : v < loM m t
    · simp only [go_sem, c136, idx_sl (loM_get h1), hlt, failsAt, failsB, reduceIte, Nat.reduceEqDiff, Nat.reduceAdd, Nat.reduceSub, Nat.reduceLT, Nat.reduceLeDiff, Nat.reduceMul, Int.reduceLT, Int.reduceLE, Int.reduceEq, Int.reduceNe, Int.reduceAdd, Int.reduceSub, Int.reduceNeg, Int.reduceMul]
      exact ⟨_, rfl⟩
    · simp only [go_sem, c136, idx_sl (loM_get h1), idx_sl (hiM_get h2), hlt, failsAt, failsB, reduceIte, Nat.reduceEqDiff, Nat.reduceAdd, Nat.reduceSub, Nat.reduceLT, Nat.reduceLeDiff, Nat.reduceMul, Int.reduceLT, Int.reduceLE, Int.reduceEq, Int.reduceNe, Int.reduceAdd, Int.reduceSub, Int.reduceNeg, Int.reduceMul]
      exact ⟨_, rfl⟩
  obtain ⟨hh, this⟩ := this
  exact callIso_of rfl this rfl rfl
abbrev uBox (u : GUnit) : ABox := .cells [(.str u.serial, false), (sl 1 vint u.values, false)]
theorem l100 (m : GMask) (u : GUnit) (hn : (u.values.getD []).length ≤ 1073741824) (h1 : (u.values.getD []).length = (m.least.getD []).length) (h2 : (u.values.getD []).length = (m.most.getD []).length) :
    X pr (.loop c100_0) ⟨[(2, .ptr 0 0, false), (5, .list true 0 [], false), (9, sl 1 vint u.values, false), (10, .int .i64 ((u.values.getD []).length : Int), false), (11, .int .i64 0, false)], [mBox m, uBox u]⟩ =
      some (.exit 0, ⟨[(2, .ptr 0 0, false), (5, acc 1 vint (failsL m 0 (u.values.getD [])), accO (failsL m 0 (u.values.getD []))), (9, sl 1 vint u.values, false), (10, .int .i64 ((u.values.getD []).length : Int), false), (11, .int .i64 ((u.values.getD []).length : Int), false), (12, .bool false, false)], [mBox m, uBox u]⟩) := by
  have := X_loop_list (p := pr) (c := c100_0) (δ := Empty) (u.values.getD []) (fun i (s : List Int) => ⟨[(2, .ptr 0 0, false), (5, acc 1 vint s, accO s), (9, sl 1 vint u.values, false), (10, .int .i64 ((u.values.getD []).length : Int), false), (11, .int .i64 (i : Int), false)], [mBox m, uBox u]⟩)
    (fun i s v => .inl (if failsAt m i v = true then s ++ [(i : Int)] else s))
    (fun s => (.exit 0, ⟨[(2, .ptr 0 0, false), (5, acc 1 vint s, accO s), (9, sl 1 vint u.values, false), (10, .int .i64 ((u.values.getD []).length : Int), false), (11, .int .i64 ((u.values.getD []).length : Int), false), (12, .bool false, false)], [mBox m, uBox u]⟩))
    (fun d => nomatch d) (fun i s => s.length ≤ i) [] (fun _ h => by cases h) (fun d => nomatch d) ?_ ?_ (Nat.le_refl _)
  · rw [Int.natCast_zero, runL_fails, List.nil_append] at this
    exact this
  · intro s _
    have hlt : ¬ (((u.values.getD []).length : Int) < ((u.values.getD []).length : Int)) := by omega
    simp only [go_sem, c100_0, hlt, reduceIte, Nat.reduceEqDiff, Nat.reduceAdd, Nat.reduceSub, Nat.reduceLT, Nat.reduceLeDiff, Nat.reduceMul, Int.reduceLT, Int.reduceLE, Int.reduceEq, Int.reduceNe, Int.reduceAdd, Int.reduceSub, Int.reduceNeg, Int.reduceMul]
  · intro i s v hx hi hs
    have hlt : (i : Int) < ((u.values.getD []).length : Int) := by omega
    have hw := wrap_succ hi (by omega)
    have hf := I136 m i v (by omega) (by omega)
    by_cases hb : failsAt m i v = true
    · refine stepL_in (s' := s ++ [(i : Int)]) (by simp only [if_pos hb]) (by simp; omega) ?_ (gc_same (Nat.le_refl _))
      cases s with
      | nil =>
        simp only [go_sem, c100_0, mBox, uBox, hlt, idx_sl hx, hf, hb, hw, acc_cons, accO_cons, reduceIte, Nat.reduceEqDiff, Nat.reduceAdd, Nat.reduceSub, Nat.reduceLT, Nat.reduceLeDiff, Nat.reduceMul, Int.reduceLT, Int.reduceLE, Int.reduceEq, Int.reduceNe, Int.reduceAdd, Int.reduceSub, Int.reduceNeg, Int.reduceMul]
        rfl
      | cons a s =>
        have h9 : s.length ≤ 1073741822 := by simp at hs; omega
        simp only [go_sem, c100_0, mBox, uBox, hlt, idx_sl hx, hf, hb, hw, acc_cons, accO_cons, List.length_map, h9, List.map_append, reduceIte, Nat.reduceEqDiff, Nat.reduceAdd, Nat.reduceSub, Nat.reduceLT, Nat.reduceLeDiff, Nat.reduceMul, Int.reduceLT, Int.reduceLE, Int.reduceEq, Int.reduceNe, Int.reduceAdd, Int.reduceSub, Int.reduceNeg, Int.reduceMul]
        rfl
    · have hb' : failsAt m i v = false := by simpa using hb
      refine stepL_in (s' := s) (by simp only [if_neg hb]) (by omega) ?_ (gc_same (Nat.le_refl _))
      simp only [go_sem, c100_0, mBox, uBox, hlt, idx_sl hx, hf, hb', hw, reduceIte, Nat.reduceEqDiff, Nat.reduceAdd, Nat.reduceSub, Nat.reduceLT, Nat.reduceLeDiff, Nat.reduceMul, Int.reduceLT, Int.reduceLE, Int.reduceEq, Int.reduceNe, Int.reduceAdd, Int.reduceSub, Int.reduceNeg, Int.reduceMul]
theorem I100 (m : GMask) (u : GUnit) (hn : (u.values.getD []).length ≤ 1073741824) (h1 : (u.values.getD []).length = (m.least.getD []).length) (h2 : (u.values.getD []).length = (m.most.getD []).length) :
    callIso pr (X pr) 100 [.agg [sl 1 vint m.least, sl 1 vint m.most], .agg [.str u.serial, sl 1 vint u.values]] = some (sl 1 vint (nonNil (failsL m 0 (u.values.getD []))), accO (failsL m 0 (u.values.getD []))) := by
  have hl := l100 m u hn h1 h2
  simp only [mBox, uBox, acc_sl] at hl
  have : ∃ hh, callFn pr (X pr) 100 [.agg [sl 1 vint m.least, sl 1 vint m.most], .agg [.str u.serial, sl 1 vint u.values]] [] = some (sl 1 vint (nonNil (failsL m 0 (u.values.getD []))), accO (failsL m 0 (u.values.getD [])), hh) := by
    rw [callFn_at (show pr.fns 100 = some c100 from rfl) (by simp)]
    simp only [go_sem, c100, hl, reduceIte, Nat.reduceEqDiff, Nat.reduceAdd, Nat.reduceSub, Nat.reduceLT, Nat.reduceLeDiff, Nat.reduceMul, Int.reduceLT, Int.reduceLE, Int.reduceEq, Int.reduceNe, Int.reduceAdd, Int.reduceSub, Int.reduceNeg, Int.reduceMul]
    exact ⟨_, rfl⟩
  obtain ⟨hh, this⟩ := this
  exact callIso_sl rfl this below_ints
theorem l36 (m : GMask) (u : GUnit) (hn : (u.values.getD []).length ≤ 1073741824) (h1 : (u.values.getD []).length = (m.least.getD []).length) (h2 : (u.values.getD []).length = (m.most.getD []).length) :
    X pr (.loop c36_0) ⟨[(2, .ptr 0 0, false), (3, .ptr 1 0, false), (5, .list true 0 [], false), (6, .int .i64 0, false)], [mBox m, uBox u]⟩ =
      some (.exit 0, ⟨[(2, .ptr 0 0, false), (3, .ptr 1 0, false), (5, acc 1 vint (failsL m 0 (u.values.getD [])), accO (failsL m 0 (u.values.getD []))), (6, .int .i64 ((u.values.getD []).length : Int), false), (11, .bool false, false)], [mBox m, uBox u]⟩) := by
  have := X_loop_list (p := pr) (c := c36_0) (δ := Empty) (u.values.getD []) (fun i (s : List Int) => ⟨[(2, .ptr 0 0, false), (3, .ptr 1 0, false), (5, acc 1 vint s, accO s), (6, .int .i64 (i : Int), false)], [mBox m, uBox u]⟩)
    (fun i s v => .inl (if failsAt m i v = true then s ++ [(i : Int)] else s))
    (fun s => (.exit 0, ⟨[(2, .ptr 0 0, false), (3, .ptr 1 0, false), (5, acc 1 vint s, accO s), (6, .int .i64 ((u.values.getD []).length : Int), false), (11, .bool false, false)], [mBox m, uBox u]⟩))
    (fun d => nomatch d) (fun i s => s.length ≤ i) [] (fun _ h => by cases h) (fun d => nomatch d) ?_ ?_ (Nat.le_refl _)
  · rw [Int.natCast_zero, runL_fails, List.nil_append] at this
    exact this
  · intro s _
    have hlt : ¬ (((u.values.getD []).length : Int) < ((m.least.getD []).length : Int)) := by omega
    simp only [go_sem, c36_0, mBox, uBox, hlt, reduceIte, Nat.reduceEqDiff, Nat.reduceAdd, Nat.reduceSub, Nat.reduceLT, Nat.reduceLeDiff, Nat.reduceMul, Int.reduceLT, Int.reduceLE, Int.reduceEq, Int.reduceNe, Int.reduceAdd, Int.reduceSub, Int.reduceNeg, Int.reduceMul]
  · intro i s v hx hi hs
    have hlt : (i : Int) < ((m.least.getD []).length : Int) := by omega
    have hw := wrap_succ hi (by omega)
    have hlo := fun h : Heap => idx_sl (z := 1) (f := vint) (k := .i64) (h := h) (l := m.least) (loM_get (show i < (m.least.getD []).length by omega))
    have hhi := fun h : Heap => idx_sl (z := 1) (f := vint) (k := .i64) (h := h) (l := m.most) (hiM_get (show i < (m.most.getD []).length by omega))
    by_cases hb1 : v < loM m i
    · have hb : failsAt m i v = true := by simp [failsAt, failsB, hb1]
      refine stepL_in (s' := s ++ [(i : Int)]) (by simp only [if_pos hb]) (by simp; omega) ?_ (gc_same (Nat.le_refl _))
      cases s with
      | nil =>
        simp only [go_sem, c36_0, mBox, uBox, hlt, idx_sl hx, hlo, hb1, hw, acc_cons, accO_cons, reduceIte, Nat.reduceEqDiff, Nat.reduceAdd, Nat.reduceSub, Nat.reduceLT, Nat.reduceLeDiff, Nat.reduceMul, Int.reduceLT, Int.reduceLE, Int.reduceEq, Int.reduceNe, Int.reduceAdd, Int.reduceSub, Int.reduceNeg, Int.reduceMul]
        rfl
      | cons a s =>
        have h9 : s.length ≤ 1073741822 := by simp at hs; omega
        simp only [go_sem, c36_0, mBox, uBox, hlt, idx_sl hx, hlo, hb1, hw, acc_cons, accO_cons, List.length_map, h9, List.map_append, reduceIte, Nat.reduceEqDiff, Nat.reduceAdd, Nat.reduceSub, Nat.reduceLT, Nat.reduceLeDiff, Nat.reduceMul, Int.reduceLT, Int.reduceLE, Int.reduceEq, Int.reduceNe, Int.reduceAdd, Int.reduceSub, Int.reduceNeg, Int.reduceMul]
        rfl
    · by_cases hb2 : hiM m i < v
      · have hb : failsAt m i v = true := by simp [failsAt, failsB, hb2]
        refine stepL_in (s' := s ++ [(i : Int)]) (by simp only [if_pos hb]) (by simp; omega) ?_ (gc_same (Nat.le_refl _))
        cases s with
        | nil =>
          simp only [go_sem, c36_0, mBox, uBox, hlt, idx_sl hx, hlo, hhi, hb1, hb2, hw, acc_cons, accO_cons, reduceIte, Nat.reduceEqDiff, Nat.reduceAdd, Nat.reduceSub, Nat.reduceLT, Nat.reduceLeDiff, Nat.reduceMul, Int.reduceLT, Int.reduceLE, Int.reduceEq, Int.reduceNe, Int.reduceAdd, Int.reduceSub, Int.reduceNeg, Int.reduceMul]
          rfl
        | cons a s =>
          have h9 : s.length ≤ 1073741822 := by simp at hs; omega
          simp only [go_sem, c36_0, mBox, uBox, hlt, idx_sl hx, hlo, hhi, hb1, hb2, hw, acc_cons, accO_cons, List.length_map, h9, List.map_append, reduceIte, Nat.reduceEqDiff, Nat.reduceAdd, Nat.reduceSub, Nat.reduceLT, Nat.reduceLeDiff, Nat.reduceMul, Int.reduceLT, Int.reduceLE, Int.reduceEq, Int.reduceNe, Int.reduceAdd, Int.reduceSub, Int.reduceNeg, Int.reduceMul]
          rfl
      · have hb : ¬ failsAt m i v = true := by simp [failsAt, failsB]; omega
        refine stepL_in (s' := s) (by simp only [if_neg hb]) (by omega) ?_ (gc_same (Nat.le_refl _))
        simp only [go_sem, c36_0, mBox, uBox, hlt, idx_sl hx, hlo, hhi, hb1, hb2, hw, reduceIte, Nat.reduceEqDiff, Nat.reduceAdd, Nat.reduceSub, Nat.reduceLT, Nat.reduceLeDiff, Nat.reduceMul, Int.reduceLT, Int.reduceLE, Int.reduceEq, Int.reduceNe, Int.reduceAdd, Int.reduceSub, Int.reduceNeg, Int.reduceMul]
theorem I36 (m : GMask) (u : GUnit) (hn : (u.values.getD []).length ≤ 1073741824) (h1 : (u.values.getD []).length = (m.least.getD []).length) (h2 : (u.values.getD []).length = (m.most.getD []).length) :
    callIso pr (X pr) 36 [.agg [sl 1 vint m.least, sl 1 vint m.most], .agg [.str u.serial, sl 1 vint u.values]] = some (sl 1 vint (nonNil (failsL m 0 (u.values.getD []))), accO (failsL m 0 (u.values.getD []))) := by
  have hl := l36 m u hn h1 h2
  simp only [mBox, uBox, acc_sl] at hl
  have : ∃ hh, callFn pr (X pr) 36 [.agg [sl 1 vint m.least, sl 1 vint m.most], .agg [.str u.serial, sl 1 vint u.values]] [] = some (sl 1 vint (nonNil (failsL m 0 (u.values.getD []))), accO (failsL m 0 (u.values.getD [])), hh) := by
    rw [callFn_at (show pr.fns 36 = some c36 from rfl) (by simp)]
    simp only [go_sem, c36, hl, reduceIte, Nat.reduceEqDiff, Nat.reduceAdd, Nat.reduceSub, Nat.reduceLT, Nat.reduceLeDiff, Nat.reduceMul, Int.reduceLT, Int.reduceLE, Int.reduceEq, Int.reduceNe, Int.reduceAdd, Int.reduceSub, Int.reduceNeg, Int.reduceMul]
    exact ⟨_, rfl⟩
  obtain ⟨hh, this⟩ := this
  exact callIso_sl rfl this below_ints
def testedE (m : GMask) (u : GUnit) : Int := firstNZ [maskE m, unitE u, whenE (!decide (((u.values.getD []).length : Int) = ((m.least.getD []).length : Int))) 2]
theorem I35 (m : GMask) (u : GUnit) (hm : (m.least.getD []).length ≤ 1073741824) (hu : sizeU u) :
    callIso pr (X pr) 35 [.agg [sl 1 vint m.least, sl 1 vint m.most], .agg [.str u.serial, sl 1 vint u.values]] = some (.int .i64 (testedE m u), false) := by
  have : ∃ hh, callFn pr (X pr) 35 [.agg [sl 1 vint m.least, sl 1 vint m.most], .agg [.str u.serial, sl 1 vint u.values]] [] = some (.int .i64 (testedE m u), false, hh) := by
    rw [callFn_at (show pr.fns 35 = some c35 from rfl) (by simp)]
    simp only [go_sem, c35, I25 m hm, I95 u hu, I96, I94_3, reduceIte, Nat.reduceEqDiff, Nat.reduceAdd, Nat.reduceSub, Nat.reduceLT, Nat.reduceLeDiff, Nat.reduceMul, Int.reduceLT, Int.reduceLE, Int.reduceEq, Int.reduceNe, Int.reduceAdd, Int.reduceSub, Int.reduceNeg, Int.reduceMul]
    exact ⟨_, rfl⟩
  obtain ⟨hh, this⟩ := this
  exact callIso_of rfl this rfl rfl
theorem I99 (m : GMask) (u : GUnit) (hm : (m.least.getD []).length ≤ 1073741824) (hu : sizeU u) :
    callIso pr (X pr) 99 [.agg [sl 1 vint m.least, sl 1 vint m.most], .agg [.str u.serial, sl 1 vint u.values]] = some (.int .i64 (testedE m u), false) := by
  have : ∃ hh, callFn pr (X pr) 99 [.agg [sl 1 vint m.least, sl 1 vint m.most], .agg [.str u.serial, sl 1 vint u.values]] [] = some (.int .i64 (testedE m u), false, hh) := by
    rw [callFn_at (show pr.fns 99 = some c99 from rfl) (by simp)]
    simp only [go_sem, c99, I29 m hm, I97 u hu, I89, I87_3, reduceIte, Nat.reduceEqDiff, Nat.reduceAdd, Nat.reduceSub, Nat.reduceLT, Nat.reduceLeDiff, Nat.reduceMul, Int.reduceLT, Int.reduceLE, Int.reduceEq, Int.reduceNe, Int.reduceAdd, Int.reduceSub, Int.reduceNeg, Int.reduceMul]
    exact ⟨_, rfl⟩
  obtain ⟨hh, this⟩ := this
  exact callIso_of rfl this rfl rfl
theorem testedE_mask {m : GMask} {u : GUnit} (h : testedE m u = 0) : maskE m = 0 := by
  by_cases hh : maskE m = 0
  · exact hh
  · simp only [testedE, firstNZ, if_neg hh] at h; exact h
theorem testedE_unit {m : GMask} {u : GUnit} (h : testedE m u = 0) : unitE u = 0 := by
  have hm := testedE_mask h
  by_cases hh : unitE u = 0
  · exact hh
  · simp only [testedE, firstNZ, hm, if_true, if_neg hh] at h; exact absurd h hh
theorem testedE_len {m : GMask} {u : GUnit} (h : testedE m u = 0) : (u.values.getD []).length = (m.least.getD []).length := by
  have hm := testedE_mask h
  have hu := testedE_unit h
  by_cases hh : ((u.values.getD []).length : Int) = ((m.least.getD []).length : Int)
  · omega
  · exfalso
    revert h
    simp [testedE, firstNZ, hm, hu, whenE, hh]
def failuresM (m : GMask) (u : GUnit) : Option (List Int) := if testedE m u = 0 then nonNil (failsL m 0 (u.values.getD [])) else none
theorem I31 (m : GMask) (u : GUnit) (hm : (m.least.getD []).length ≤ 1073741824) (hu : sizeU u) :
    callIso pr (X pr) 31 [.agg [sl 1 vint m.least, sl 1 vint m.most], .agg [.str u.serial, sl 1 vint u.values]] = some (.tup [sl 1 vint (failuresM m u), .int .i64 (testedE m u)], false) := by
  have : ∃ hh, callFn pr (X pr) 31 [.agg [sl 1 vint m.least, sl 1 vint m.most], .agg [.str u.serial, sl 1 vint u.values]] [] = some (.tup [sl 1 vint (failuresM m u), .int .i64 (testedE m u)], false, hh) := by
    rw [callFn_at (show pr.fns 31 = some c31 from rfl) (by simp)]
    by_cases hz : testedE m u = 0
    · have h1 := testedE_len hz
      have h2 := maskE_len (testedE_mask hz)
      have h100 := I100 m u hu.2 h1 (by omega)
      have hf : failuresM m u = nonNil (failsL m 0 (u.values.getD [])) := if_pos hz
      rw [hf]
      simp only [go_sem, c31, I99 m u hm hu, hz, h100, reduceIte, Nat.reduceEqDiff, Nat.reduceAdd, Nat.reduceSub, Nat.reduceLT, Nat.reduceLeDiff, Nat.reduceMul, Int.reduceLT, Int.reduceLE, Int.reduceEq, Int.reduceNe, Int.reduceAdd, Int.reduceSub, Int.reduceNeg, Int.reduceMul]
      exact ⟨_, rfl⟩
    · have hf : failuresM m u = none := if_neg hz
      rw [hf]
      simp only [go_sem, c31, I99 m u hm hu, hz, reduceIte, Nat.reduceEqDiff, Nat.reduceAdd, Nat.reduceSub, Nat.reduceLT, Nat.reduceLeDiff, Nat.reduceMul, Int.reduceLT, Int.reduceLE, Int.reduceEq, Int.reduceNe, Int.reduceAdd, Int.reduceSub, Int.reduceNeg, Int.reduceMul]
      exact ⟨_, rfl⟩
  obtain ⟨hh, this⟩ := this
  exact callIso_of rfl this (by simp only [go_sem, reduceIte, Nat.reduceEqDiff, Nat.reduceAdd, Nat.reduceSub, Nat.reduceLT, Nat.reduceLeDiff, Nat.reduceMul, Int.reduceLT, Int.reduceLE, Int.reduceEq, Int.reduceNe, Int.reduceAdd, Int.reduceSub, Int.reduceNeg, Int.reduceMul]) (by simp only [go_sem, reduceIte, Nat.reduceEqDiff, Nat.reduceAdd, Nat.reduceSub, Nat.reduceLT, Nat.reduceLeDiff, Nat.reduceMul, Int.reduceLT, Int.reduceLE, Int.reduceEq, Int.reduceNe, Int.reduceAdd, Int.reduceSub, Int.reduceNeg, Int.reduceMul])
end Go.Z
