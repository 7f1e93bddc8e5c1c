/-
  Grades: the runs.
-/
import Derived.Test.YtbkpojiedkhfkaaGreatL14
set_option linter.unusedVariables false
set_option linter.unusedSimpArgs false
set_option maxRecDepth 100000
set_option linter.unusedSimpArgs false
namespace Go.Z
open Go Go.Abs
theorem b_quo {k : IntKind} {x y : Int} (hy : y ≠ 0) : binOpA .quo (.int k x) (.int k y) = some (.int k (wrapF k (x.tdiv y))) := by
  have hb : (y == 0) = false := by simp [hy]
  simp [binOpA, binInt, hb]
theorem b_rem {k : IntKind} {x y : Int} (hy : y ≠ 0) : binOpA .rem (.int k x) (.int k y) = some (.int k (x.tmod y)) := by
  have hb : (y == 0) = false := by simp [hy]
  simp [binOpA, binInt, hb]
@[go_sem] theorem u_neg {k : IntKind} {x : Int} : unOpA .neg (.int k x) = some (.int k (wrapF k (0 - x))) := rfl
theorem firstNZ_zero : ∀ {l : List Int}, firstNZ l = 0 → ∀ x ∈ l, x = 0
  | y :: l, h, x, hx => by
    simp only [firstNZ] at h
    by_cases hy : y = 0
    · rw [if_pos hy] at h
      cases hx with
      | head => exact hy
      | tail _ hx => exact firstNZ_zero h x hx
    · rw [if_neg hy] at h; exact absurd h hy
theorem checkRange_zero {n lo hi : Int} (h : checkRange n lo hi = 0) : lo ≤ n ∧ n ≤ hi := by
  unfold checkRange at h
  by_cases h1 : n < lo
  · rw [if_pos h1] at h; cases h
  · rw [if_neg h1] at h
    by_cases h2 : hi < n
    · rw [if_pos h2] at h; cases h
    · omega
theorem checkEach_zero {lo hi : Int} : ∀ {l : List Int}, checkEach lo hi l = 0 → ∀ x ∈ l, lo ≤ x ∧ x ≤ hi
  | y :: l, h, x, hx => by
    simp only [checkEach] at h
    by_cases hy : checkRange y lo hi = 0
    · rw [if_pos hy] at h
      cases hx with
      | head => exact checkRange_zero hy
      | tail _ hx => exact checkEach_zero h x hx
    · rw [if_neg hy] at h; cases h
theorem whenE_zero {b : Bool} {e : Int} (he : e ≠ 0) (h : whenE b e = 0) : b = false := by
  cases b with
  | false => rfl
  | true => exact absurd h he
theorem maskE_at {m : GMask} (h : maskE m = 0) {i : Nat} (hi : i < (m.least.getD []).length) : -100000 ≤ loM m i ∧ loM m i ≤ hiM m i ∧ hiM m i ≤ 100000 := by
  have hl := maskE_len h
  have hA : maskA m = 0 := by
    by_cases hz : maskA m = 0
    · exact hz
    · unfold maskE at h; rw [if_neg hz] at h; exact absurd h hz
  unfold maskE at h
  rw [if_pos hA] at h
  have hp := firstNZ_zero h (pairE (loM m i, hiM m i)) (List.mem_map_of_mem (List.mem_of_getElem? (i := i) (by rw [List.getElem?_zip_eq_some]; exact ⟨loM_get hi, hiM_get (by omega)⟩)))
  unfold pairE at hp
  have h1 := checkRange_zero (firstNZ_zero hp _ (List.mem_cons_self ..))
  have h2 := checkRange_zero (firstNZ_zero hp _ (List.mem_cons_of_mem _ (List.mem_cons_self ..)))
  have h3 := whenE_zero (by decide) (firstNZ_zero hp _ (List.mem_cons_of_mem _ (List.mem_cons_of_mem _ (List.mem_cons_self ..))))
  simp only [decide_eq_false_iff_not] at h3
  simp only at h1 h2
  omega
theorem unitE_at {u : GUnit} (h : unitE u = 0) : ∀ v ∈ u.values.getD [], -100000 ≤ v ∧ v ≤ 100000 := by
  unfold unitE at h
  exact checkEach_zero (firstNZ_zero h _ (by simp))
def gradeStep (cls a b v g : Int) : Int := if a = b then g else max g (min (cls - 1) ((cls * max (2 * v - a - b) (a + b - 2 * v)).tdiv (b - a)))
def gradeL (m : GMask) (cls : Int) : Nat → Int → List Int → Int
  | _, g, [] => g
  | i, g, v :: l => gradeL m cls (i + 1) (gradeStep cls (loM m i) (hiM m i) v g) l
theorem runL_grade (m : GMask) (cls : Int) : ∀ (l : List Int) (i : Nat) (g : Int), runL (δ := Empty) (fun i g v => .inl (gradeStep cls (loM m i) (hiM m i) v g)) i g l = .inl (gradeL m cls i g l)
  | [], _, _ => rfl
  | v :: l, i, g => by simp only [runL, gradeL]; exact runL_grade m cls l (i + 1) _
structure GradeOk (cls a b v : Int) : Prop where
  c1 : 1 ≤ cls
  c2 : cls ≤ 100
  a1 : -100000 ≤ a
  ab : a ≤ b
  b1 : b ≤ 100000
  v1 : -100000 ≤ v
  v2 : v ≤ 100000
theorem grade_big {cls a b v : Int} (h : GradeOk cls a b v) : 0 ≤ cls * max (2 * v - a - b) (a + b - 2 * v) ∧ cls * max (2 * v - a - b) (a + b - 2 * v) ≤ 40000000 := by
  obtain ⟨c1, c2, a1, ab, b1, v1, v2⟩ := h
  have h0 : 0 ≤ max (2 * v - a - b) (a + b - 2 * v) := by omega
  have h1 : max (2 * v - a - b) (a + b - 2 * v) ≤ 400000 := by omega
  refine ⟨Int.mul_nonneg (by omega) h0, ?_⟩
  calc cls * max (2 * v - a - b) (a + b - 2 * v) ≤ 100 * 400000 := Int.mul_le_mul c2 h1 h0 (by omega)
    _ = 40000000 := by decide
theorem grade_quo {cls a b v : Int} (h : GradeOk cls a b v) (hab : ¬ a = b) : wrapF .i64 ((cls * max (2 * v - a - b) (a + b - 2 * v)).tdiv (b - a)) = (cls * max (2 * v - a - b) (a + b - 2 * v)).tdiv (b - a) := by
  obtain ⟨h1, h2⟩ := grade_big h
  have hb : 0 < b - a := by have := h.ab; omega
  have h3 : 0 ≤ (cls * max (2 * v - a - b) (a + b - 2 * v)).tdiv (b - a) := Int.tdiv_nonneg h1 (by omega)
  have h4 : (cls * max (2 * v - a - b) (a + b - 2 * v)).tdiv (b - a) ≤ 40000000 := by
    rw [Int.tdiv_eq_ediv_of_nonneg h1]
    exact Int.le_trans (Int.ediv_le_self _ h1) h2
  exact wrapF_i64 (by omega) (by omega)
theorem b33 (m : GMask) (u : GUnit) (cls g : Int) (i : Nat) (v : Int) (hx : (u.values.getD [])[i]? = some v) (hn : (u.values.getD []).length ≤ 1073741824) (h1 : i < (m.least.getD []).length) (h2 : i < (m.most.getD []).length) (hok : GradeOk cls (loM m i) (hiM m i) v) :
    X pr c33_0 ⟨[(2, .int .i64 cls, false), (3, .ptr 0 0, false), (9, .int .i64 g, false), (31, sl 1 vint u.values, false), (32, .int .i64 ((u.values.getD []).length : Int), false), (33, .int .i64 (i : Int), false)], [mBox m, uBox u]⟩ =
      some (.normal, ⟨[(2, .int .i64 cls, false), (3, .ptr 0 0, false), (9, .int .i64 (gradeStep cls (loM m i) (hiM m i) v g), false), (31, sl 1 vint u.values, false), (32, .int .i64 ((u.values.getD []).length : Int), false), (33, .int .i64 ((i + 1 : Nat) : Int), false)], [mBox m, uBox u]⟩) := by
  have hi : i < (u.values.getD []).length := (List.getElem?_eq_some_iff.1 hx).1
  have hlt : (i : Int) < ((u.values.getD []).length : Int) := by omega
  have hw := wrap_succ hi (by omega)
  have hlo := fun h : Heap => idx_sl (z := 1) (f := vint) (k := .i64) (h := h) (l := m.least) (loM_get h1)
  have hhi := fun h : Heap => idx_sl (z := 1) (f := vint) (k := .i64) (h := h) (l := m.most) (hiM_get h2)
  have hq := grade_quo hok
  have hbig := grade_big hok
  generalize loM m i = a at *
  generalize hiM m i = b at *
  have hok' := hok
  obtain ⟨c1, c2, a1, ab, b1, v1, v2⟩ := hok'
  by_cases hab : a = b
  · have habt : (a = b) = True := by simp [hab]
    have hs : gradeStep cls a b v g = g := if_pos hab
    rw [hs]
    simp only [go_sem, c33_0, mBox, uBox, hlt, idx_sl hx, hlo, hhi, habt, hw, reduceIte, Nat.reduceEqDiff, Nat.reduceAdd, Nat.reduceSub, Nat.reduceLT, Nat.reduceLeDiff, Nat.reduceMul, Int.reduceLT, Int.reduceLE, Int.reduceEq, Int.reduceNe, Int.reduceAdd, Int.reduceSub, Int.reduceNeg, Int.reduceMul]
  · have hq := hq hab
    have hs : gradeStep cls a b v g = max g (min (cls - 1) ((cls * max (2 * v - a - b) (a + b - 2 * v)).tdiv (b - a))) := if_neg hab
    rw [hs]
    have w1 : wrapF .i64 (2 * v) = 2 * v := wrapF_i64 (by omega) (by omega)
    have w2 : wrapF .i64 (2 * v - a) = 2 * v - a := wrapF_i64 (by omega) (by omega)
    have w3 : wrapF .i64 (2 * v - a - b) = 2 * v - a - b := wrapF_i64 (by omega) (by omega)
    have w4 : wrapF .i64 (0 - (2 * v - a - b)) = a + b - 2 * v := by rw [wrapF_i64 (by omega) (by omega)]; omega
    have w5 : wrapF .i64 (cls - 1) = cls - 1 := wrapF_i64 (by omega) (by omega)
    have w6 : wrapF .i64 (b - a) = b - a := wrapF_i64 (by omega) (by omega)
    have w7 : wrapF .i64 (cls * max (2 * v - a - b) (a + b - 2 * v)) = cls * max (2 * v - a - b) (a + b - 2 * v) := wrapF_i64 (by omega) (by omega)
    have hne : b - a ≠ 0 := by omega
    simp only [go_sem, c33_0, mBox, uBox, hlt, idx_sl hx, hlo, hhi, hab, hw, w1, w2, w3, w4, w5, w6, w7, b_quo hne, hq, reduceIte, Nat.reduceEqDiff, Nat.reduceAdd, Nat.reduceSub, Nat.reduceLT, Nat.reduceLeDiff, Nat.reduceMul, Int.reduceLT, Int.reduceLE, Int.reduceEq, Int.reduceNe, Int.reduceAdd, Int.reduceSub, Int.reduceNeg, Int.reduceMul]
theorem b37 (m : GMask) (u : GUnit) (cls g : Int) (i : Nat) (v : Int) (hx : (u.values.getD [])[i]? = some v) (hn : (u.values.getD []).length ≤ 1073741824) (h1 : i < (m.least.getD []).length) (h2 : i < (m.most.getD []).length) (hok : GradeOk cls (loM m i) (hiM m i) v) :
    X pr c37_0 ⟨[(2, .int .i64 cls, false), (3, .ptr 0 0, false), (4, .ptr 1 0, false), (7, .int .i64 g, false), (8, .int .i64 (i : Int), false)], [mBox m, uBox u]⟩ =
      some (.normal, ⟨[(2, .int .i64 cls, false), (3, .ptr 0 0, false), (4, .ptr 1 0, false), (7, .int .i64 (gradeStep cls (loM m i) (hiM m i) v g), false), (8, .int .i64 ((i + 1 : Nat) : Int), false)], [mBox m, uBox u]⟩) := by
  have hi : i < (u.values.getD []).length := (List.getElem?_eq_some_iff.1 hx).1
  have hlt : (i : Int) < ((m.least.getD []).length : Int) := by omega
  have hw := wrap_succ hi (by omega)
  have hlo := fun h : Heap => idx_sl (z := 1) (f := vint) (k := .i64) (h := h) (l := m.least) (loM_get h1)
  have hhi := fun h : Heap => idx_sl (z := 1) (f := vint) (k := .i64) (h := h) (l := m.most) (hiM_get h2)
  have hq := grade_quo hok
  have hbig := grade_big hok
  generalize loM m i = a at *
  generalize hiM m i = b at *
  have hok' := hok
  obtain ⟨c1, c2, a1, ab, b1, v1, v2⟩ := hok'
  by_cases hab : a = b
  · have habt : (a = b) = True := by simp [hab]
    have hs : gradeStep cls a b v g = g := if_pos hab
    rw [hs]
    simp only [go_sem, c37_0, mBox, uBox, hlt, idx_sl hx, hlo, hhi, habt, hw, reduceIte, Nat.reduceEqDiff, Nat.reduceAdd, Nat.reduceSub, Nat.reduceLT, Nat.reduceLeDiff, Nat.reduceMul, Int.reduceLT, Int.reduceLE, Int.reduceEq, Int.reduceNe, Int.reduceAdd, Int.reduceSub, Int.reduceNeg, Int.reduceMul]
  · have hq := hq hab
    have hs : gradeStep cls a b v g = max g (min (cls - 1) ((cls * max (2 * v - a - b) (a + b - 2 * v)).tdiv (b - a))) := if_neg hab
    rw [hs]
    have w1 : wrapF .i64 (2 * v) = 2 * v := wrapF_i64 (by omega) (by omega)
    have w2 : wrapF .i64 (2 * v - a) = 2 * v - a := wrapF_i64 (by omega) (by omega)
    have w3 : wrapF .i64 (2 * v - a - b) = 2 * v - a - b := wrapF_i64 (by omega) (by omega)
    have w8 : wrapF .i64 (a + b) = a + b := wrapF_i64 (by omega) (by omega)
    have w4 : wrapF .i64 (a + b - 2 * v) = a + b - 2 * v := wrapF_i64 (by omega) (by omega)
    have w5 : wrapF .i64 (cls - 1) = cls - 1 := wrapF_i64 (by omega) (by omega)
    have w6 : wrapF .i64 (b - a) = b - a := wrapF_i64 (by omega) (by omega)
    have w7 : wrapF .i64 (cls * max (2 * v - a - b) (a + b - 2 * v)) = cls * max (2 * v - a - b) (a + b - 2 * v) := wrapF_i64 (by omega) (by omega)
    have hne : b - a ≠ 0 := by omega
    simp only [go_sem, c37_0, mBox, uBox, hlt, idx_sl hx, hlo, hhi, hab, hw, w1, w2, w3, w4, w5, w6, w7, w8, b_quo hne, hq, reduceIte, Nat.reduceEqDiff, Nat.reduceAdd, Nat.reduceSub, Nat.reduceLT, Nat.reduceLeDiff, Nat.reduceMul, Int.reduceLT, Int.reduceLE, Int.reduceEq, Int.reduceNe, Int.reduceAdd, Int.reduceSub, Int.reduceNeg, Int.reduceMul]
theorem l33 (m : GMask) (u : GUnit) (cls : Int) (hm : maskE m = 0) (hu : unitE u = 0) (hn : (u.values.getD []).length ≤ 1073741824) (h1 : (u.values.getD []).length = (m.least.getD []).length) (hc1 : 1 ≤ cls) (hc2 : cls ≤ 100) :
    X pr (.loop c33_0) ⟨[(2, .int .i64 cls, false), (3, .ptr 0 0, false), (9, .int .i64 0, false), (31, sl 1 vint u.values, false), (32, .int .i64 ((u.values.getD []).length : Int), false), (33, .int .i64 0, false)], [mBox m, uBox u]⟩ =
      some (.exit 0, ⟨[(2, .int .i64 cls, false), (3, .ptr 0 0, false), (9, .int .i64 (gradeL m cls 0 0 (u.values.getD [])), false), (31, sl 1 vint u.values, false), (32, .int .i64 ((u.values.getD []).length : Int), false), (33, .int .i64 ((u.values.getD []).length : Int), false), (34, .bool false, false)], [mBox m, uBox u]⟩) := by
  have h2 := maskE_len hm
  have := X_loop_list (p := pr) (c := c33_0) (δ := Empty) (u.values.getD []) (fun i (g : Int) => ⟨[(2, .int .i64 cls, false), (3, .ptr 0 0, false), (9, .int .i64 g, false), (31, sl 1 vint u.values, false), (32, .int .i64 ((u.values.getD []).length : Int), false), (33, .int .i64 (i : Int), false)], [mBox m, uBox u]⟩)
    (fun i g v => .inl (gradeStep cls (loM m i) (hiM m i) v g))
    (fun g => (.exit 0, ⟨[(2, .int .i64 cls, false), (3, .ptr 0 0, false), (9, .int .i64 g, false), (31, sl 1 vint u.values, false), (32, .int .i64 ((u.values.getD []).length : Int), false), (33, .int .i64 ((u.values.getD []).length : Int), false), (34, .bool false, false)], [mBox m, uBox u]⟩))
    (fun d => nomatch d) (fun _ _ => True) 0 (fun _ h => by cases h) (fun d => nomatch d) ?_ ?_ trivial
  · rw [Int.natCast_zero, runL_grade] at this
    exact this
  · intro s _
    have hlt : ¬ (((u.values.getD []).length : Int) < ((u.values.getD []).length : Int)) := by omega
    simp only [go_sem, c33_0, hlt, reduceIte, Nat.reduceEqDiff, Nat.reduceAdd, Nat.reduceSub, Nat.reduceLT, Nat.reduceLeDiff, Nat.reduceMul, Int.reduceLT, Int.reduceLE, Int.reduceEq, Int.reduceNe, Int.reduceAdd, Int.reduceSub, Int.reduceNeg, Int.reduceMul]
  · intro i g v hx hi _
    have ha := maskE_at hm (show i < (m.least.getD []).length by omega)
    have hv := unitE_at hu v (List.mem_of_getElem? hx)
    exact stepL_in rfl trivial (b33 m u cls g i v hx hn (by omega) (by omega) ⟨hc1, hc2, ha.1, ha.2.1, ha.2.2, hv.1, hv.2⟩) (gc_same (Nat.le_refl _))
theorem l37 (m : GMask) (u : GUnit) (cls : Int) (hm : maskE m = 0) (hu : unitE u = 0) (hn : (u.values.getD []).length ≤ 1073741824) (h1 : (u.values.getD []).length = (m.least.getD []).length) (hc1 : 1 ≤ cls) (hc2 : cls ≤ 100) :
    X pr (.loop c37_0) ⟨[(2, .int .i64 cls, false), (3, .ptr 0 0, false), (4, .ptr 1 0, false), (7, .int .i64 0, false), (8, .int .i64 0, false)], [mBox m, uBox u]⟩ =
      some (.exit 0, ⟨[(2, .int .i64 cls, false), (3, .ptr 0 0, false), (4, .ptr 1 0, false), (7, .int .i64 (gradeL m cls 0 0 (u.values.getD [])), false), (8, .int .i64 ((u.values.getD []).length : Int), false), (16, .bool false, false)], [mBox m, uBox u]⟩) := by
  have h2 := maskE_len hm
  have := X_loop_list (p := pr) (c := c37_0) (δ := Empty) (u.values.getD []) (fun i (g : Int) => ⟨[(2, .int .i64 cls, false), (3, .ptr 0 0, false), (4, .ptr 1 0, false), (7, .int .i64 g, false), (8, .int .i64 (i : Int), false)], [mBox m, uBox u]⟩)
    (fun i g v => .inl (gradeStep cls (loM m i) (hiM m i) v g))
    (fun g => (.exit 0, ⟨[(2, .int .i64 cls, false), (3, .ptr 0 0, false), (4, .ptr 1 0, false), (7, .int .i64 g, false), (8, .int .i64 ((u.values.getD []).length : Int), false), (16, .bool false, false)], [mBox m, uBox u]⟩))
    (fun d => nomatch d) (fun _ _ => True) 0 (fun _ h => by cases h) (fun d => nomatch d) ?_ ?_ trivial
  · rw [Int.natCast_zero, runL_grade] at this
    exact this
  · intro s _
    have hlt : ¬ (((u.values.getD []).length : Int) < ((m.least.getD []).length : Int)) := by omega
    simp only [go_sem, c37_0, mBox, hlt, reduceIte, Nat.reduceEqDiff, Nat.reduceAdd, Nat.reduceSub, Nat.reduceLT, Nat.reduceLeDiff, Nat.reduceMul, Int.reduceLT, Int.reduceLE, Int.reduceEq, Int.reduceNe, Int.reduceAdd, Int.reduceSub, Int.reduceNeg, Int.reduceMul]
  · intro i g v hx hi _
    have ha := maskE_at hm (show i < (m.least.getD []).length by omega)
    have hv := unitE_at hu v (List.mem_of_getElem? hx)
    exact stepL_in rfl trivial (b37 m u cls g i v hx hn (by omega) (by omega) ⟨hc1, hc2, ha.1, ha.2.1, ha.2.2, hv.1, hv.2⟩) (gc_same (Nat.le_refl _))
theorem I37 (m : GMask) (u : GUnit) (cls : Int) (hz : testedE m u = 0) (hn : (u.values.getD []).length ≤ 1073741824) (hc1 : 1 ≤ cls) (hc2 : cls ≤ 100) :
    callIso pr (X pr) 37 [.agg [sl 1 vint m.least, sl 1 vint m.most], .agg [.str u.serial, sl 1 vint u.values], .int .i64 cls] = some (.int .i64 (gradeL m cls 0 0 (u.values.getD [])), false) := by
  have hl := l37 m u cls (testedE_mask hz) (testedE_unit hz) hn (testedE_len hz) hc1 hc2
  simp only [mBox, uBox] at hl
  have : ∃ hh, callFn pr (X pr) 37 [.agg [sl 1 vint m.least, sl 1 vint m.most], .agg [.str u.serial, sl 1 vint u.values], .int .i64 cls] [] = some (.int .i64 (gradeL m cls 0 0 (u.values.getD [])), false, hh) := by
    rw [callFn_at (show pr.fns 37 = some c37 from rfl) (by simp)]
    simp only [go_sem, c37, hl, reduceIte, Nat.reduceEqDiff, Nat.reduceAdd, Nat.reduceSub, Nat.reduceLT, Nat.reduceLeDiff, Nat.reduceMul, Int.reduceLT, Int.reduceLE, Int.reduceEq, Int.reduceNe, Int.reduceAdd, Int.reduceSub, Int.reduceNeg, Int.reduceMul]
    exact ⟨_, rfl⟩
  obtain ⟨hh, this⟩ := this
  exact callIso_of rfl this rfl rfl
def gradeE (m : GMask) (u : GUnit) (cls : Int) : Int := firstNZ [testedE m u, checkRange cls 1 100]
def gradedE (m : GMask) (u : GUnit) (cls : Int) : Int := if gradeE m u cls = 0 then (if failsL m 0 (u.values.getD []) = [] then 0 else 31) else gradeE m u cls
def gradedN (m : GMask) (u : GUnit) (cls : Int) : Int := if gradeE m u cls = 0 then (if failsL m 0 (u.values.getD []) = [] then gradeL m cls 0 0 (u.values.getD []) else 0) else 0
theorem gradeE_tested {m : GMask} {u : GUnit} {cls : Int} (h : gradeE m u cls = 0) : testedE m u = 0 := firstNZ_zero h _ (List.mem_cons_self ..)
theorem gradeE_cls {m : GMask} {u : GUnit} {cls : Int} (h : gradeE m u cls = 0) : 1 ≤ cls ∧ cls ≤ 100 := checkRange_zero (firstNZ_zero h _ (List.mem_cons_of_mem _ (List.mem_cons_self ..)))
theorem I33 (m : GMask) (u : GUnit) (cls : Int) (hm : (m.least.getD []).length ≤ 1073741824) (hu : sizeU u) :
    callIso pr (X pr) 33 [.agg [sl 1 vint m.least, sl 1 vint m.most], .agg [.str u.serial, sl 1 vint u.values], .int .i64 cls] = some (.tup [.int .i64 (gradedN m u cls), .int .i64 (gradedE m u cls)], false) := by
  have : ∃ hh, callFn pr (X pr) 33 [.agg [sl 1 vint m.least, sl 1 vint m.most], .agg [.str u.serial, sl 1 vint u.values], .int .i64 cls] [] = some (.tup [.int .i64 (gradedN m u cls), .int .i64 (gradedE m u cls)], false, hh) := by
    rw [callFn_at (show pr.fns 33 = some c33 from rfl) (by simp)]
    have hz' : firstNZ [testedE m u, checkRange cls 1 100] = gradeE m u cls := rfl
    by_cases hz : gradeE m u cls = 0
    · have ht := gradeE_tested hz
      have hc := gradeE_cls hz
      have h1 := testedE_len ht
      have h2 := maskE_len (testedE_mask ht)
      have h100 := I100 m u hu.2 h1 (by omega)
      by_cases hf : failsL m 0 (u.values.getD []) = []
      · have e1 : gradedE m u cls = 0 := by unfold gradedE; rw [if_pos hz, if_pos hf]
        have e2 : gradedN m u cls = gradeL m cls 0 0 (u.values.getD []) := by unfold gradedN; rw [if_pos hz, if_pos hf]
        have hl := l33 m u cls (testedE_mask ht) (testedE_unit ht) hu.2 h1 hc.1 hc.2
        simp only [mBox, uBox] at hl
        rw [hf] at h100
        rw [e1, e2]
        have h100' : callIso pr (X pr) 100 [.agg [sl 1 vint m.least, sl 1 vint m.most], .agg [.str u.serial, sl 1 vint u.values]] = some (.list true 0 [], false) := h100
        simp only [go_sem, c33, I99 m u hm hu, I88, I87_2, hz', hz, h100', Int.natCast_zero, hl, reduceIte, Nat.reduceEqDiff, Nat.reduceAdd, Nat.reduceSub, Nat.reduceLT, Nat.reduceLeDiff, Nat.reduceMul, Int.reduceLT, Int.reduceLE, Int.reduceEq, Int.reduceNe, Int.reduceAdd, Int.reduceSub, Int.reduceNeg, Int.reduceMul]
        exact ⟨_, rfl⟩
      · have e1 : gradedE m u cls = 31 := by unfold gradedE; rw [if_pos hz, if_neg hf]
        have e2 : gradedN m u cls = 0 := by unfold gradedN; rw [if_pos hz, if_neg hf]
        rw [e1, e2]
        obtain ⟨a, l, hal⟩ : ∃ a l, failsL m 0 (u.values.getD []) = a :: l := by
          cases hc : failsL m 0 (u.values.getD []) with
          | nil => exact absurd hc hf
          | cons a l => exact ⟨a, l, rfl⟩
        rw [hal] at h100
        have h100' : callIso pr (X pr) 100 [.agg [sl 1 vint m.least, sl 1 vint m.most], .agg [.str u.serial, sl 1 vint u.values]] = some (.list false 1 ((a :: l).map vint), true) := h100
        have hpos : (0 : Int) < ((l.length + 1 : Nat) : Int) := by omega
        simp only [go_sem, c33, I99 m u hm hu, I88, I87_2, hz', hz, h100', List.length_map, hpos, reduceIte, Nat.reduceEqDiff, Nat.reduceAdd, Nat.reduceSub, Nat.reduceLT, Nat.reduceLeDiff, Nat.reduceMul, Int.reduceLT, Int.reduceLE, Int.reduceEq, Int.reduceNe, Int.reduceAdd, Int.reduceSub, Int.reduceNeg, Int.reduceMul]
        exact ⟨_, rfl⟩
    · have e1 : gradedE m u cls = gradeE m u cls := if_neg hz
      have e2 : gradedN m u cls = 0 := if_neg hz
      rw [e1, e2]
      simp only [go_sem, c33, I99 m u hm hu, I88, I87_2, hz', hz, reduceIte, Nat.reduceEqDiff, Nat.reduceAdd, Nat.reduceSub, Nat.reduceLT, Nat.reduceLeDiff, Nat.reduceMul, Int.reduceLT, Int.reduceLE, Int.reduceEq, Int.reduceNe, Int.reduceAdd, Int.reduceSub, Int.reduceNeg, Int.reduceMul]
      exact ⟨_, rfl⟩
  obtain ⟨hh, this⟩ := this
  exact callIso_of rfl this rfl rfl
end Go.Z
