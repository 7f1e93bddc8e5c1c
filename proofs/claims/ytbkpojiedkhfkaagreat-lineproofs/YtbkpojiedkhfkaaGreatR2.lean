/-
  Pairs: functions that mirror the runs, and the runs (printed by walk.py).
-/
import Derived.Test.YtbkpojiedkhfkaaGreatR1
import Derived.Test.YtbkpojiedkhfkaaGreatG0a
set_option linter.unusedVariables false
set_option linter.unusedSimpArgs false
set_option maxRecDepth 100000
set_option linter.unusedSimpArgs false
set_option linter.unusedVariables false
set_option maxHeartbeats 4000000
namespace Go.Z
open Go Go.Abs
noncomputable def s115_0 (a0 : GUnit) (a1 : GUnit) (s0 : Int × Int) : Option ((Int × Int) ⊕ ((Int × Int))) :=
  cond (decide (s0.2 < ((a0.values.getD []).length : Int)))
   (obind (idxO (a0.values.getD []) s0.2) fun v12 =>
    obind (idxO (a1.values.getD []) s0.2) fun v14 =>
    some (.inl (max (max s0.1 (wrapF .i64 (v12 - v14))) (wrapF .i64 (v14 - v12)), wrapF .i64 (s0.2 + 1))))
   (some (.inr (s0.1, s0.2)))
def St115_0 (a0 : GUnit) (a1 : GUnit) (s0 : Int × Int) : ASt := ⟨[(3, .ptr 1 0, false), (5, .int .i64 s0.1, false), (9, sl 1 vint a0.values, false), (10, .int .i64 ((a0.values.getD []).length : Int), false), (11, .int .i64 s0.2, false)], [.cells [(.str a0.serial, false), (sl 1 vint a0.values, false)], .cells [(.str a1.serial, false), (sl 1 vint a1.values, false)]]⟩
def Ex115_0 (a0 : GUnit) (a1 : GUnit) (d : (Int × Int)) : AExit × ASt := (.exit 0, ⟨[(3, .ptr 1 0, false), (5, .int .i64 d.1, false), (9, sl 1 vint a0.values, false), (10, .int .i64 ((a0.values.getD []).length : Int), false), (11, .int .i64 d.2, false), (12, .bool false, false)], [.cells [(.str a0.serial, false), (sl 1 vint a0.values, false)], .cells [(.str a1.serial, false), (sl 1 vint a1.values, false)]]⟩)
theorem b115_0 (a0 : GUnit) (a1 : GUnit) (s0 : Int × Int) (r) (h : s115_0 a0 a1 s0 = some r) : stepO pr c115_0 (St115_0 a0 a1) (Ex115_0 a0 a1) s0 r := by
  unfold s115_0 at h
  rcases cond_split h with ⟨h11, h⟩ | ⟨h11, h⟩
  · obtain ⟨v12, h13, h⟩ := obind_some h
    obtain ⟨v14, h15, h⟩ := obind_some h
    cases h
    exact stepO_in (st' := ⟨[(3, .ptr 1 0, false), (5, .int .i64 (max (max s0.1 (wrapF .i64 (v12 - v14))) (wrapF .i64 (v14 - v12))), false), (9, sl 1 vint a0.values, false), (10, .int .i64 ((a0.values.getD []).length : Int), false), (11, .int .i64 (wrapF .i64 (s0.2 + 1)), false)], [.cells [(.str a0.serial, false), (sl 1 vint a0.values, false)], .cells [(.str a1.serial, false), (sl 1 vint a1.values, false)]]⟩) (by simp only [go_sem, seval, c115_0, St115_0, h11, idxR_O h13, idxR_O h15] <;> rfl) (gc_same (Nat.le_refl _))
  · cases h
    exact stepO_out (by simp only [go_sem, seval, c115_0, St115_0, h11, Ex115_0] <;> rfl)
theorem l115_0 (a0 : GUnit) (a1 : GUnit) {s0 : Int × Int} {d} (h : itO (s115_0 a0 a1) s0 = some d) : X pr (.loop c115_0) (St115_0 a0 a1 s0) = some (Ex115_0 a0 a1 d) := X_itO (b115_0 a0 a1) (fun d hh => by cases hh) h
noncomputable def f115 (a0 : GUnit) (a1 : GUnit) : Option Int :=
  obind (itO (s115_0 a0 a1) (0, 0)) fun d16 =>
  some d16.1
theorem W115 {a0 : GUnit} {a1 : GUnit} {r} (h : f115 a0 a1 = some r) : callIso pr (X pr) 115 [.agg [.str a0.serial, sl 1 vint a0.values], .agg [.str a1.serial, sl 1 vint a1.values]] = some (.int .i64 r, false) := by
  unfold f115 at h
  obtain ⟨d16, h17, h⟩ := obind_some h
  have wh17 : X pr (.loop c115_0) ⟨[(3, .ptr 1 0, false), (5, .int .i64 0, false), (9, sl 1 vint a0.values, false), (10, .int .i64 ((a0.values.getD []).length : Int), false), (11, .int .i64 0, false)], [.cells [(.str a0.serial, false), (sl 1 vint a0.values, false)], .cells [(.str a1.serial, false), (sl 1 vint a1.values, false)]]⟩ = some (.exit 0, ⟨[(3, .ptr 1 0, false), (5, .int .i64 d16.1, false), (9, sl 1 vint a0.values, false), (10, .int .i64 ((a0.values.getD []).length : Int), false), (11, .int .i64 d16.2, false), (12, .bool false, false)], [.cells [(.str a0.serial, false), (sl 1 vint a0.values, false)], .cells [(.str a1.serial, false), (sl 1 vint a1.values, false)]]⟩) := l115_0 a0 a1 h17
  have hr : d16.1 = r := Option.some.inj h
  subst hr
  have this : ∃ hh, callFn pr (X pr) 115 [.agg [.str a0.serial, sl 1 vint a0.values], .agg [.str a1.serial, sl 1 vint a1.values]] [] = some (.int .i64 d16.1, false, hh) := by
    rw [callFn_at (show pr.fns 115 = some c115 from rfl) (by simp)]
    simp only [go_sem, seval, c115, wh17]
    exact ⟨_, rfl⟩
  obtain ⟨hh, this⟩ := this
  exact callIso_of rfl this (by first | rfl | simp only [go_sem, seval]) (by first | rfl | simp only [go_sem, seval])
noncomputable def s68_0 (a0 : GUnit) (a1 : GUnit) (s0 : Int × Int) : Option ((Int × Int) ⊕ ((Int × Int))) :=
  cond (decide (s0.2 < ((a0.values.getD []).length : Int)))
   (obind (idxO (a0.values.getD []) s0.2) fun v12 =>
    obind (idxO (a1.values.getD []) s0.2) fun v14 =>
    some (.inl (max (max s0.1 (wrapF .i64 (v12 - v14))) (wrapF .i64 (v14 - v12)), wrapF .i64 (s0.2 + 1))))
   (some (.inr (s0.1, s0.2)))
def St68_0 (a0 : GUnit) (a1 : GUnit) (s0 : Int × Int) : ASt := ⟨[(2, .ptr 0 0, false), (3, .ptr 1 0, false), (5, .int .i64 s0.1, false), (6, .int .i64 s0.2, false)], [.cells [(.str a0.serial, false), (sl 1 vint a0.values, false)], .cells [(.str a1.serial, false), (sl 1 vint a1.values, false)]]⟩
def Ex68_0 (a0 : GUnit) (a1 : GUnit) (d : (Int × Int)) : AExit × ASt := (.exit 0, ⟨[(2, .ptr 0 0, false), (3, .ptr 1 0, false), (5, .int .i64 d.1, false), (6, .int .i64 d.2, false), (11, .bool false, false)], [.cells [(.str a0.serial, false), (sl 1 vint a0.values, false)], .cells [(.str a1.serial, false), (sl 1 vint a1.values, false)]]⟩)
theorem b68_0 (a0 : GUnit) (a1 : GUnit) (s0 : Int × Int) (r) (h : s68_0 a0 a1 s0 = some r) : stepO pr c68_0 (St68_0 a0 a1) (Ex68_0 a0 a1) s0 r := by
  unfold s68_0 at h
  rcases cond_split h with ⟨h11, h⟩ | ⟨h11, h⟩
  · obtain ⟨v12, h13, h⟩ := obind_some h
    obtain ⟨v14, h15, h⟩ := obind_some h
    cases h
    exact stepO_in (st' := ⟨[(2, .ptr 0 0, false), (3, .ptr 1 0, false), (5, .int .i64 (max (max s0.1 (wrapF .i64 (v12 - v14))) (wrapF .i64 (v14 - v12))), false), (6, .int .i64 (wrapF .i64 (s0.2 + 1)), false)], [.cells [(.str a0.serial, false), (sl 1 vint a0.values, false)], .cells [(.str a1.serial, false), (sl 1 vint a1.values, false)]]⟩) (by simp only [go_sem, seval, c68_0, St68_0, h11, idxR_O h13, idxR_O h15] <;> rfl) (gc_same (Nat.le_refl _))
  · cases h
    exact stepO_out (by simp only [go_sem, seval, c68_0, St68_0, h11, Ex68_0] <;> rfl)
theorem l68_0 (a0 : GUnit) (a1 : GUnit) {s0 : Int × Int} {d} (h : itO (s68_0 a0 a1) s0 = some d) : X pr (.loop c68_0) (St68_0 a0 a1 s0) = some (Ex68_0 a0 a1 d) := X_itO (b68_0 a0 a1) (fun d hh => by cases hh) h
noncomputable def f68 (a0 : GUnit) (a1 : GUnit) : Option Int :=
  obind (itO (s68_0 a0 a1) (0, 0)) fun d16 =>
  some d16.1
theorem W68 {a0 : GUnit} {a1 : GUnit} {r} (h : f68 a0 a1 = some r) : callIso pr (X pr) 68 [.agg [.str a0.serial, sl 1 vint a0.values], .agg [.str a1.serial, sl 1 vint a1.values]] = some (.int .i64 r, false) := by
  unfold f68 at h
  obtain ⟨d16, h17, h⟩ := obind_some h
  have wh17 : X pr (.loop c68_0) ⟨[(2, .ptr 0 0, false), (3, .ptr 1 0, false), (5, .int .i64 0, false), (6, .int .i64 0, false)], [.cells [(.str a0.serial, false), (sl 1 vint a0.values, false)], .cells [(.str a1.serial, false), (sl 1 vint a1.values, false)]]⟩ = some (.exit 0, ⟨[(2, .ptr 0 0, false), (3, .ptr 1 0, false), (5, .int .i64 d16.1, false), (6, .int .i64 d16.2, false), (11, .bool false, false)], [.cells [(.str a0.serial, false), (sl 1 vint a0.values, false)], .cells [(.str a1.serial, false), (sl 1 vint a1.values, false)]]⟩) := l68_0 a0 a1 h17
  have hr : d16.1 = r := Option.some.inj h
  subst hr
  have this : ∃ hh, callFn pr (X pr) 68 [.agg [.str a0.serial, sl 1 vint a0.values], .agg [.str a1.serial, sl 1 vint a1.values]] [] = some (.int .i64 d16.1, false, hh) := by
    rw [callFn_at (show pr.fns 68 = some c68 from rfl) (by simp)]
    simp only [go_sem, seval, c68, wh17]
    exact ⟨_, rfl⟩
  obtain ⟨hh, this⟩ := this
  exact callIso_of rfl this (by first | rfl | simp only [go_sem, seval]) (by first | rfl | simp only [go_sem, seval])
noncomputable def s116_0 (a0 : Option (List Int)) (a1 : Int) (s0 : Int) : Option (Int ⊕ (Int ⊕ Int)) :=
  cond (decide (s0 < ((a0.getD []).length : Int)))
   (obind (idxO (a0.getD []) s0) fun v10 =>
    cond (decide (a1 = v10))
     (some (.inr (.inl s0)))
     (some (.inl (wrapF .i64 (s0 + 1)))))
   (some (.inr (.inr s0)))
def St116_0 (a0 : Option (List Int)) (a1 : Int) (s0 : Int) : ASt := ⟨[(0, sl 1 vint a0, false), (1, .int .i64 a1, false), (7, .int .i64 ((a0.getD []).length : Int), false), (8, .int .i64 s0, false)], []⟩
def Ex116_0 (a0 : Option (List Int)) (a1 : Int) : Int ⊕ Int → AExit × ASt
  | .inl d => (.ret, ⟨[(4, .int .i64 d, false)], []⟩)
  | .inr d => (.exit 0, ⟨[(0, sl 1 vint a0, false), (1, .int .i64 a1, false), (7, .int .i64 ((a0.getD []).length : Int), false), (8, .int .i64 d, false), (9, .bool false, false)], []⟩)
theorem b116_0 (a0 : Option (List Int)) (a1 : Int) (s0 : Int) (r) (h : s116_0 a0 a1 s0 = some r) : stepO pr c116_0 (St116_0 a0 a1) (Ex116_0 a0 a1) s0 r := by
  unfold s116_0 at h
  rcases cond_split h with ⟨h9, h⟩ | ⟨h9, h⟩
  · obtain ⟨v10, h11, h⟩ := obind_some h
    rcases cond_split h with ⟨h12, h⟩ | ⟨h12, h⟩
    · cases h
      exact stepO_out (by simp only [go_sem, seval, c116_0, St116_0, h9, idxR_O h11, h12, Ex116_0] <;> rfl)
    · cases h
      exact stepO_in (st' := ⟨[(0, sl 1 vint a0, false), (1, .int .i64 a1, false), (7, .int .i64 ((a0.getD []).length : Int), false), (8, .int .i64 (wrapF .i64 (s0 + 1)), false)], []⟩) (by simp only [go_sem, seval, c116_0, St116_0, h9, idxR_O h11, h12] <;> rfl) (gc_same (Nat.le_refl _))
  · cases h
    exact stepO_out (by simp only [go_sem, seval, c116_0, St116_0, h9, Ex116_0] <;> rfl)
theorem l116_0 (a0 : Option (List Int)) (a1 : Int) {s0 : Int} {d} (h : itO (s116_0 a0 a1) s0 = some d) : X pr (.loop c116_0) (St116_0 a0 a1 s0) = some (Ex116_0 a0 a1 d) := X_itO (b116_0 a0 a1) (fun d => by rcases d with d|d <;> (intro hh; cases hh)) h
noncomputable def f116 (a0 : Option (List Int)) (a1 : Int) : Option Int :=
  obind (itO (s116_0 a0 a1) 0) fun d13 => match d13 with
    | .inl d15 =>
      some d15
    | .inr d16 =>
      some (-1)
theorem W116 {a0 : Option (List Int)} {a1 : Int} {r} (h : f116 a0 a1 = some r) : callIso pr (X pr) 116 [sl 1 vint a0, .int .i64 a1] = some (.int .i64 r, false) := by
  unfold f116 at h
  obtain ⟨d13, h14, h⟩ := obind_some h
  rcases d13 with d15 | d16
  · have wh14 : X pr (.loop c116_0) ⟨[(0, sl 1 vint a0, false), (1, .int .i64 a1, false), (7, .int .i64 ((a0.getD []).length : Int), false), (8, .int .i64 0, false)], []⟩ = some (.ret, ⟨[(4, .int .i64 d15, false)], []⟩) := l116_0 a0 a1 h14
    have hr : d15 = r := Option.some.inj h
    subst hr
    have this : ∃ hh, callFn pr (X pr) 116 [sl 1 vint a0, .int .i64 a1] [] = some (.int .i64 d15, false, hh) := by
      rw [callFn_at (show pr.fns 116 = some c116 from rfl) (by simp)]
      simp only [go_sem, seval, c116, wh14]
      exact ⟨_, rfl⟩
    obtain ⟨hh, this⟩ := this
    exact callIso_of rfl this (by first | rfl | simp only [go_sem, seval]) (by first | rfl | simp only [go_sem, seval])
  · have wh14 : X pr (.loop c116_0) ⟨[(0, sl 1 vint a0, false), (1, .int .i64 a1, false), (7, .int .i64 ((a0.getD []).length : Int), false), (8, .int .i64 0, false)], []⟩ = some (.exit 0, ⟨[(0, sl 1 vint a0, false), (1, .int .i64 a1, false), (7, .int .i64 ((a0.getD []).length : Int), false), (8, .int .i64 d16, false), (9, .bool false, false)], []⟩) := l116_0 a0 a1 h14
    have hr : (-1) = r := Option.some.inj h
    subst hr
    have this : ∃ hh, callFn pr (X pr) 116 [sl 1 vint a0, .int .i64 a1] [] = some (.int .i64 (-1), false, hh) := by
      rw [callFn_at (show pr.fns 116 = some c116 from rfl) (by simp)]
      simp only [go_sem, seval, c116, wh14]
      exact ⟨_, rfl⟩
    obtain ⟨hh, this⟩ := this
    exact callIso_of rfl this (by first | rfl | simp only [go_sem, seval]) (by first | rfl | simp only [go_sem, seval])
noncomputable def s124_0 (a0 : Option (List Int)) (a1 : Int) (s0 : Int) : Option (Int ⊕ (Unit ⊕ Int)) :=
  cond (decide (s0 < ((a0.getD []).length : Int)))
   (obind (idxO (a0.getD []) s0) fun v10 =>
    cond (decide (v10 = a1))
     (some (.inr (.inl ())))
     (some (.inl (wrapF .i64 (s0 + 1)))))
   (some (.inr (.inr s0)))
def St124_0 (a0 : Option (List Int)) (a1 : Int) (s0 : Int) : ASt := ⟨[(0, sl 1 vint a0, false), (1, .int .i64 a1, false), (5, .int .i64 s0, false)], []⟩
def Ex124_0 (a0 : Option (List Int)) (a1 : Int) : Unit ⊕ Int → AExit × ASt
  | .inl d => (.ret, ⟨[(4, .bool true, false)], []⟩)
  | .inr d => (.exit 0, ⟨[(0, sl 1 vint a0, false), (1, .int .i64 a1, false), (5, .int .i64 d, false), (9, .bool false, false)], []⟩)
theorem b124_0 (a0 : Option (List Int)) (a1 : Int) (s0 : Int) (r) (h : s124_0 a0 a1 s0 = some r) : stepO pr c124_0 (St124_0 a0 a1) (Ex124_0 a0 a1) s0 r := by
  unfold s124_0 at h
  rcases cond_split h with ⟨h9, h⟩ | ⟨h9, h⟩
  · obtain ⟨v10, h11, h⟩ := obind_some h
    rcases cond_split h with ⟨h12, h⟩ | ⟨h12, h⟩
    · cases h
      exact stepO_out (by simp only [go_sem, seval, c124_0, St124_0, h9, idxR_O h11, h12, Ex124_0] <;> rfl)
    · cases h
      exact stepO_in (st' := ⟨[(0, sl 1 vint a0, false), (1, .int .i64 a1, false), (5, .int .i64 (wrapF .i64 (s0 + 1)), false)], []⟩) (by simp only [go_sem, seval, c124_0, St124_0, h9, idxR_O h11, h12] <;> rfl) (gc_same (Nat.le_refl _))
  · cases h
    exact stepO_out (by simp only [go_sem, seval, c124_0, St124_0, h9, Ex124_0] <;> rfl)
theorem l124_0 (a0 : Option (List Int)) (a1 : Int) {s0 : Int} {d} (h : itO (s124_0 a0 a1) s0 = some d) : X pr (.loop c124_0) (St124_0 a0 a1 s0) = some (Ex124_0 a0 a1 d) := X_itO (b124_0 a0 a1) (fun d => by rcases d with d|d <;> (intro hh; cases hh)) h
noncomputable def f124 (a0 : Option (List Int)) (a1 : Int) : Option Bool :=
  obind (itO (s124_0 a0 a1) 0) fun d13 => match d13 with
    | .inl d15 =>
      some true
    | .inr d16 =>
      some false
theorem W124 {a0 : Option (List Int)} {a1 : Int} {r} (h : f124 a0 a1 = some r) : callIso pr (X pr) 124 [sl 1 vint a0, .int .i64 a1] = some (.bool r, false) := by
  unfold f124 at h
  obtain ⟨d13, h14, h⟩ := obind_some h
  rcases d13 with d15 | d16
  · have wh14 : X pr (.loop c124_0) ⟨[(0, sl 1 vint a0, false), (1, .int .i64 a1, false), (5, .int .i64 0, false)], []⟩ = some (.ret, ⟨[(4, .bool true, false)], []⟩) := l124_0 a0 a1 h14
    have hr : true = r := Option.some.inj h
    subst hr
    have this : ∃ hh, callFn pr (X pr) 124 [sl 1 vint a0, .int .i64 a1] [] = some (.bool true, false, hh) := by
      rw [callFn_at (show pr.fns 124 = some c124 from rfl) (by simp)]
      simp only [go_sem, seval, c124, wh14]
      exact ⟨_, rfl⟩
    obtain ⟨hh, this⟩ := this
    exact callIso_of rfl this (by first | rfl | simp only [go_sem, seval]) (by first | rfl | simp only [go_sem, seval])
  · have wh14 : X pr (.loop c124_0) ⟨[(0, sl 1 vint a0, false), (1, .int .i64 a1, false), (5, .int .i64 0, false)], []⟩ = some (.exit 0, ⟨[(0, sl 1 vint a0, false), (1, .int .i64 a1, false), (5, .int .i64 d16, false), (9, .bool false, false)], []⟩) := l124_0 a0 a1 h14
    have hr : false = r := Option.some.inj h
    subst hr
    have this : ∃ hh, callFn pr (X pr) 124 [sl 1 vint a0, .int .i64 a1] [] = some (.bool false, false, hh) := by
      rw [callFn_at (show pr.fns 124 = some c124 from rfl) (by simp)]
      simp only [go_sem, seval, c124, wh14]
      exact ⟨_, rfl⟩
    obtain ⟨hh, this⟩ := this
    exact callIso_of rfl this (by first | rfl | simp only [go_sem, seval]) (by first | rfl | simp only [go_sem, seval])
end Go.Z
/-
  The growth of an empty list: its contract.
-/
set_option maxRecDepth 100000
set_option linter.unusedSimpArgs false
namespace Go.Z
open Go Go.Abs
@[go_sem] theorem lenR_cap_sl {α : Type} {h : Heap} {z : Nat} {f : α → AVal} : lenR 2 h (some (sl z f (none : Option (List α)))) = some ⟨.int .i64 0, false, none, h⟩ := rfl
end Go.Z
/-
  Pairs: functions that mirror the runs, and the runs, second part (printed by walk.py).
-/
set_option maxRecDepth 100000
set_option linter.unusedSimpArgs false
set_option linter.unusedVariables false
set_option maxHeartbeats 4000000
namespace Go.Z
open Go Go.Abs
end Go.Z
/-
  Pairs: functions that mirror the runs, and the runs, third part (printed by walk.py).
-/
set_option maxRecDepth 100000
set_option linter.unusedSimpArgs false
set_option linter.unusedVariables false
set_option maxHeartbeats 4000000
namespace Go.Z
open Go Go.Abs
end Go.Z
/-
  Pairs: functions that mirror the runs, and the runs, fourth part (printed by walk.py).
-/
set_option maxRecDepth 100000
set_option linter.unusedSimpArgs false
set_option linter.unusedVariables false
set_option maxHeartbeats 4000000
namespace Go.Z
open Go Go.Abs
end Go.Z
