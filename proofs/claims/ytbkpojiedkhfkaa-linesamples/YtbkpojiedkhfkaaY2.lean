/-
  LineSamples: functions that mirror the runs, and the runs (printed by walk.py).
-/
import Derived.Test.YtbkpojiedkhfkaaY1
set_option linter.unusedVariables false
set_option linter.unusedSimpArgs false
set_option maxRecDepth 100000
set_option linter.unusedSimpArgs false
set_option linter.unusedVariables false
set_option maxHeartbeats 4000000
namespace Go.Z
open Go Go.Abs
noncomputable def f26 (a0 : Int) (a1 : Int) (a2 : Int) : Option Int :=
  cond (decide (a0 < a1))
   (some 3)
   (cond (decide (a2 < a0))
     (some 3)
     (some 0))
theorem W26 {a0 : Int} {a1 : Int} {a2 : Int} {r} (h : f26 a0 a1 a2 = some r) : callIso pr (X pr) 26 [.int .i64 a0, .int .i64 a1, .int .i64 a2] = some (.int .i64 r, false) := by
  unfold f26 at h
  rcases cond_split h with ⟨h1, h⟩ | ⟨h1, h⟩
  · have hr : 3 = r := Option.some.inj h
    subst hr
    have this : ∃ hh, callFn pr (X pr) 26 [.int .i64 a0, .int .i64 a1, .int .i64 a2] [] = some (.int .i64 3, false, hh) := by
      rw [callFn_at (show pr.fns 26 = some c26 from rfl) (by simp)]
      simp only [go_sem, seval, c26, h1]
      exact ⟨_, rfl⟩
    obtain ⟨hh, this⟩ := this
    exact callIso_of rfl this (by first | rfl | simp only [go_sem, seval]) (by first | rfl | simp only [go_sem, seval])
  · rcases cond_split h with ⟨h2, h⟩ | ⟨h2, h⟩
    · have hr : 3 = r := Option.some.inj h
      subst hr
      have this : ∃ hh, callFn pr (X pr) 26 [.int .i64 a0, .int .i64 a1, .int .i64 a2] [] = some (.int .i64 3, false, hh) := by
        rw [callFn_at (show pr.fns 26 = some c26 from rfl) (by simp)]
        simp only [go_sem, seval, c26, h1, h2]
        exact ⟨_, rfl⟩
      obtain ⟨hh, this⟩ := this
      exact callIso_of rfl this (by first | rfl | simp only [go_sem, seval]) (by first | rfl | simp only [go_sem, seval])
    · have hr : 0 = r := Option.some.inj h
      subst hr
      have this : ∃ hh, callFn pr (X pr) 26 [.int .i64 a0, .int .i64 a1, .int .i64 a2] [] = some (.int .i64 0, false, hh) := by
        rw [callFn_at (show pr.fns 26 = some c26 from rfl) (by simp)]
        simp only [go_sem, seval, c26, h1, h2]
        exact ⟨_, rfl⟩
      obtain ⟨hh, this⟩ := this
      exact callIso_of rfl this (by first | rfl | simp only [go_sem, seval]) (by first | rfl | simp only [go_sem, seval])
noncomputable def s25_0 (a0 : Option (List Int)) (s0 : Int) : Option (Int ⊕ (Int ⊕ Int)) :=
  cond (decide (s0 < ((a0.getD []).length : Int)))
   (obind (idxO (a0.getD []) s0) fun v10 =>
    cond (decide (v10 = 0))
     (some (.inl (wrapF .i64 (s0 + 1))))
     (some (.inr (.inl v10))))
   (some (.inr (.inr s0)))
def St25_0 (a0 : Option (List Int)) (s0 : Int) : ASt := ⟨[(0, sl 1 vint a0, false), (3, .int .i64 s0, false)], []⟩
def Ex25_0 (a0 : Option (List Int)) : Int ⊕ Int → AExit × ASt
  | .inl d => (.ret, ⟨[(2, .int .i64 d, false)], []⟩)
  | .inr d => (.exit 0, ⟨[(0, sl 1 vint a0, false), (3, .int .i64 d, false), (7, .bool false, false)], []⟩)
theorem b25_0 (a0 : Option (List Int)) (s0 : Int) (r) (h : s25_0 a0 s0 = some r) : stepO pr c25_0 (St25_0 a0) (Ex25_0 a0) s0 r := by
  unfold s25_0 at h
  rcases cond_split h with ⟨h9, h⟩ | ⟨h9, h⟩
  · obtain ⟨v10, h11, h⟩ := obind_some h
    rcases cond_split h with ⟨h12, h⟩ | ⟨h12, h⟩
    · cases h
      exact stepO_in (st' := ⟨[(0, sl 1 vint a0, false), (3, .int .i64 (wrapF .i64 (s0 + 1)), false)], []⟩) (by simp only [go_sem, seval, c25_0, St25_0, h9, idxR_O h11, h12] <;> rfl) (gc_same (Nat.le_refl _))
    · cases h
      exact stepO_out (by simp only [go_sem, seval, c25_0, St25_0, h9, idxR_O h11, h12, Ex25_0] <;> rfl)
  · cases h
    exact stepO_out (by simp only [go_sem, seval, c25_0, St25_0, h9, Ex25_0] <;> rfl)
theorem l25_0 (a0 : Option (List Int)) {s0 : Int} {d} (h : itO (s25_0 a0) s0 = some d) : X pr (.loop c25_0) (St25_0 a0 s0) = some (Ex25_0 a0 d) := X_itO (b25_0 a0) (fun d => by rcases d with d|d <;> (intro hh; cases hh)) h
noncomputable def f25 (a0 : Option (List Int)) : Option Int :=
  obind (itO (s25_0 a0) 0) fun d13 => match d13 with
    | .inl d15 =>
      some d15
    | .inr d16 =>
      some 0
theorem W25 {a0 : Option (List Int)} {r} (h : f25 a0 = some r) : callIso pr (X pr) 25 [sl 1 vint a0] = some (.int .i64 r, false) := by
  unfold f25 at h
  obtain ⟨d13, h14, h⟩ := obind_some h
  rcases d13 with d15 | d16
  · have wh14 : X pr (.loop c25_0) ⟨[(0, sl 1 vint a0, false), (3, .int .i64 0, false)], []⟩ = some (.ret, ⟨[(2, .int .i64 d15, false)], []⟩) := l25_0 a0 h14
    have hr : d15 = r := Option.some.inj h
    subst hr
    have this : ∃ hh, callFn pr (X pr) 25 [sl 1 vint a0] [] = some (.int .i64 d15, false, hh) := by
      rw [callFn_at (show pr.fns 25 = some c25 from rfl) (by simp)]
      simp only [go_sem, seval, c25, wh14]
      exact ⟨_, rfl⟩
    obtain ⟨hh, this⟩ := this
    exact callIso_of rfl this (by first | rfl | simp only [go_sem, seval]) (by first | rfl | simp only [go_sem, seval])
  · have wh14 : X pr (.loop c25_0) ⟨[(0, sl 1 vint a0, false), (3, .int .i64 0, false)], []⟩ = some (.exit 0, ⟨[(0, sl 1 vint a0, false), (3, .int .i64 d16, false), (7, .bool false, false)], []⟩) := l25_0 a0 h14
    have hr : 0 = r := Option.some.inj h
    subst hr
    have this : ∃ hh, callFn pr (X pr) 25 [sl 1 vint a0] [] = some (.int .i64 0, false, hh) := by
      rw [callFn_at (show pr.fns 25 = some c25 from rfl) (by simp)]
      simp only [go_sem, seval, c25, wh14]
      exact ⟨_, rfl⟩
    obtain ⟨hh, this⟩ := this
    exact callIso_of rfl this (by first | rfl | simp only [go_sem, seval]) (by first | rfl | simp only [go_sem, seval])
noncomputable def f5 (a0 : GPlan) : Option Int :=
  obind (f26 a0.lot 1 30) fun v1 =>
  obind (f26 a0.sample 1 a0.lot) fun v3 =>
  obind (f26 a0.accept 0 (wrapF .i64 (a0.sample - 1))) fun v5 =>
  obind (f25 (some [v1, v3, v5])) fun v7 =>
  some v7
theorem W5 {a0 : GPlan} {r} (h : f5 a0 = some r) : callIso pr (X pr) 5 [.agg [.int .i64 a0.lot, .int .i64 a0.sample, .int .i64 a0.accept]] = some (.int .i64 r, false) := by
  unfold f5 at h
  obtain ⟨v1, h2, h⟩ := obind_some h
  have wh2 : callIso pr (X pr) 26 [.int .i64 a0.lot, .int .i64 1, .int .i64 30] = some (.int .i64 v1, false) := W26 h2
  obtain ⟨v3, h4, h⟩ := obind_some h
  have wh4 : callIso pr (X pr) 26 [.int .i64 a0.sample, .int .i64 1, .int .i64 a0.lot] = some (.int .i64 v3, false) := W26 h4
  obtain ⟨v5, h6, h⟩ := obind_some h
  have wh6 : callIso pr (X pr) 26 [.int .i64 a0.accept, .int .i64 0, .int .i64 (wrapF .i64 (a0.sample - 1))] = some (.int .i64 v5, false) := W26 h6
  obtain ⟨v7, h8, h⟩ := obind_some h
  have wh8 : callIso pr (X pr) 25 [.list false 1 [.int .i64 v1, .int .i64 v3, .int .i64 v5]] = some (.int .i64 v7, false) := W25 h8
  have hr : v7 = r := Option.some.inj h
  subst hr
  have this : ∃ hh, callFn pr (X pr) 5 [.agg [.int .i64 a0.lot, .int .i64 a0.sample, .int .i64 a0.accept]] [] = some (.int .i64 v7, false, hh) := by
    rw [callFn_at (show pr.fns 5 = some c5 from rfl) (by simp)]
    simp only [go_sem, seval, c5, wh2, wh4, wh6, wh8]
    exact ⟨_, rfl⟩
  obtain ⟨hh, this⟩ := this
  exact callIso_of rfl this (by first | rfl | simp only [go_sem, seval]) (by first | rfl | simp only [go_sem, seval])
noncomputable def f33 (a0 : Bool) (a1 : Int) : Option Int :=
  cond a0
   (some a1)
   (some 0)
theorem W33 {a0 : Bool} {a1 : Int} {r} (h : f33 a0 a1 = some r) : callIso pr (X pr) 33 [.bool a0, .int .i64 a1] = some (.int .i64 r, false) := by
  unfold f33 at h
  rcases cond_split h with ⟨h1, h⟩ | ⟨h1, h⟩
  · have hr : a1 = r := Option.some.inj h
    subst hr
    have this : ∃ hh, callFn pr (X pr) 33 [.bool a0, .int .i64 a1] [] = some (.int .i64 a1, false, hh) := by
      rw [callFn_at (show pr.fns 33 = some c33 from rfl) (by simp)]
      simp only [go_sem, seval, c33, h1]
      exact ⟨_, rfl⟩
    obtain ⟨hh, this⟩ := this
    exact callIso_of rfl this (by first | rfl | simp only [go_sem, seval]) (by first | rfl | simp only [go_sem, seval])
  · have hr : 0 = r := Option.some.inj h
    subst hr
    have this : ∃ hh, callFn pr (X pr) 33 [.bool a0, .int .i64 a1] [] = some (.int .i64 0, false, hh) := by
      rw [callFn_at (show pr.fns 33 = some c33 from rfl) (by simp)]
      simp only [go_sem, seval, c33, h1]
      exact ⟨_, rfl⟩
    obtain ⟨hh, this⟩ := this
    exact callIso_of rfl this (by first | rfl | simp only [go_sem, seval]) (by first | rfl | simp only [go_sem, seval])
noncomputable def f28 (a0 : Int) (a1 : Int) (a2 : Int) : Option Int :=
  cond (decide (a0 < a1))
   (obind (f33 true 3) fun v2 =>
    some v2)
   (obind (f33 (decide (a2 < a0)) 3) fun v4 =>
    some v4)
theorem W28 {a0 : Int} {a1 : Int} {a2 : Int} {r} (h : f28 a0 a1 a2 = some r) : callIso pr (X pr) 28 [.int .i64 a0, .int .i64 a1, .int .i64 a2] = some (.int .i64 r, false) := by
  unfold f28 at h
  rcases cond_split h with ⟨h1, h⟩ | ⟨h1, h⟩
  · obtain ⟨v2, h3, h⟩ := obind_some h
    have wh3 : callIso pr (X pr) 33 [.bool true, .int .i64 3] = some (.int .i64 v2, false) := W33 h3
    have hr : v2 = r := Option.some.inj h
    subst hr
    have this : ∃ hh, callFn pr (X pr) 28 [.int .i64 a0, .int .i64 a1, .int .i64 a2] [] = some (.int .i64 v2, false, hh) := by
      rw [callFn_at (show pr.fns 28 = some c28 from rfl) (by simp)]
      simp only [go_sem, seval, c28, h1, wh3]
      exact ⟨_, rfl⟩
    obtain ⟨hh, this⟩ := this
    exact callIso_of rfl this (by first | rfl | simp only [go_sem, seval]) (by first | rfl | simp only [go_sem, seval])
  · obtain ⟨v4, h5, h⟩ := obind_some h
    have wh5 : callIso pr (X pr) 33 [.bool (decide (a2 < a0)), .int .i64 3] = some (.int .i64 v4, false) := W33 h5
    have hr : v4 = r := Option.some.inj h
    subst hr
    have this : ∃ hh, callFn pr (X pr) 28 [.int .i64 a0, .int .i64 a1, .int .i64 a2] [] = some (.int .i64 v4, false, hh) := by
      rw [callFn_at (show pr.fns 28 = some c28 from rfl) (by simp)]
      simp only [go_sem, seval, c28, h1, wh5]
      exact ⟨_, rfl⟩
    obtain ⟨hh, this⟩ := this
    exact callIso_of rfl this (by first | rfl | simp only [go_sem, seval]) (by first | rfl | simp only [go_sem, seval])
noncomputable def f44 (a0 : Int) : Option Int :=
  obind (f28 a0 1 30) fun v1 =>
  some v1
theorem W44 {a0 : Int} {r} (h : f44 a0 = some r) : callIso pr (X pr) 44 [.int .i64 a0] = some (.int .i64 r, false) := by
  unfold f44 at h
  obtain ⟨v1, h2, h⟩ := obind_some h
  have wh2 : callIso pr (X pr) 28 [.int .i64 a0, .int .i64 1, .int .i64 30] = some (.int .i64 v1, false) := W28 h2
  have hr : v1 = r := Option.some.inj h
  subst hr
  have this : ∃ hh, callFn pr (X pr) 44 [.int .i64 a0] [] = some (.int .i64 v1, false, hh) := by
    rw [callFn_at (show pr.fns 44 = some c44 from rfl) (by simp)]
    simp only [go_sem, seval, c44, wh2]
    exact ⟨_, rfl⟩
  obtain ⟨hh, this⟩ := this
  exact callIso_of rfl this (by first | rfl | simp only [go_sem, seval]) (by first | rfl | simp only [go_sem, seval])
noncomputable def s32_0 (a0 : Option (List Int)) (s0 : Int) : Option (Int ⊕ (Int ⊕ Int)) :=
  cond (decide (s0 < ((a0.getD []).length : Int)))
   (obind (idxO (a0.getD []) s0) fun v10 =>
    cond (decide (v10 = 0))
     (some (.inl (wrapF .i64 (s0 + 1))))
     (some (.inr (.inl v10))))
   (some (.inr (.inr s0)))
def St32_0 (a0 : Option (List Int)) (s0 : Int) : ASt := ⟨[(5, sl 1 vint a0, false), (6, .int .i64 ((a0.getD []).length : Int), false), (7, .int .i64 s0, false)], []⟩
def Ex32_0 (a0 : Option (List Int)) : Int ⊕ Int → AExit × ASt
  | .inl d => (.ret, ⟨[(2, .int .i64 d, false)], []⟩)
  | .inr d => (.exit 0, ⟨[(5, sl 1 vint a0, false), (6, .int .i64 ((a0.getD []).length : Int), false), (7, .int .i64 d, false), (8, .bool false, false)], []⟩)
theorem b32_0 (a0 : Option (List Int)) (s0 : Int) (r) (h : s32_0 a0 s0 = some r) : stepO pr c32_0 (St32_0 a0) (Ex32_0 a0) s0 r := by
  unfold s32_0 at h
  rcases cond_split h with ⟨h9, h⟩ | ⟨h9, h⟩
  · obtain ⟨v10, h11, h⟩ := obind_some h
    rcases cond_split h with ⟨h12, h⟩ | ⟨h12, h⟩
    · cases h
      exact stepO_in (st' := ⟨[(5, sl 1 vint a0, false), (6, .int .i64 ((a0.getD []).length : Int), false), (7, .int .i64 (wrapF .i64 (s0 + 1)), false)], []⟩) (by simp only [go_sem, seval, c32_0, St32_0, h9, idxR_O h11, h12] <;> rfl) (gc_same (Nat.le_refl _))
    · cases h
      exact stepO_out (by simp only [go_sem, seval, c32_0, St32_0, h9, idxR_O h11, h12, Ex32_0] <;> rfl)
  · cases h
    exact stepO_out (by simp only [go_sem, seval, c32_0, St32_0, h9, Ex32_0] <;> rfl)
theorem l32_0 (a0 : Option (List Int)) {s0 : Int} {d} (h : itO (s32_0 a0) s0 = some d) : X pr (.loop c32_0) (St32_0 a0 s0) = some (Ex32_0 a0 d) := X_itO (b32_0 a0) (fun d => by rcases d with d|d <;> (intro hh; cases hh)) h
noncomputable def f32 (a0 : Option (List Int)) : Option Int :=
  obind (itO (s32_0 a0) 0) fun d13 => match d13 with
    | .inl d15 =>
      some d15
    | .inr d16 =>
      some 0
theorem W32 {a0 : Option (List Int)} {r} (h : f32 a0 = some r) : callIso pr (X pr) 32 [sl 1 vint a0] = some (.int .i64 r, false) := by
  unfold f32 at h
  obtain ⟨d13, h14, h⟩ := obind_some h
  rcases d13 with d15 | d16
  · have wh14 : X pr (.loop c32_0) ⟨[(5, sl 1 vint a0, false), (6, .int .i64 ((a0.getD []).length : Int), false), (7, .int .i64 0, false)], []⟩ = some (.ret, ⟨[(2, .int .i64 d15, false)], []⟩) := l32_0 a0 h14
    have hr : d15 = r := Option.some.inj h
    subst hr
    have this : ∃ hh, callFn pr (X pr) 32 [sl 1 vint a0] [] = some (.int .i64 d15, false, hh) := by
      rw [callFn_at (show pr.fns 32 = some c32 from rfl) (by simp)]
      simp only [go_sem, seval, c32, wh14]
      exact ⟨_, rfl⟩
    obtain ⟨hh, this⟩ := this
    exact callIso_of rfl this (by first | rfl | simp only [go_sem, seval]) (by first | rfl | simp only [go_sem, seval])
  · have wh14 : X pr (.loop c32_0) ⟨[(5, sl 1 vint a0, false), (6, .int .i64 ((a0.getD []).length : Int), false), (7, .int .i64 0, false)], []⟩ = some (.exit 0, ⟨[(5, sl 1 vint a0, false), (6, .int .i64 ((a0.getD []).length : Int), false), (7, .int .i64 d16, false), (8, .bool false, false)], []⟩) := l32_0 a0 h14
    have hr : 0 = r := Option.some.inj h
    subst hr
    have this : ∃ hh, callFn pr (X pr) 32 [sl 1 vint a0] [] = some (.int .i64 0, false, hh) := by
      rw [callFn_at (show pr.fns 32 = some c32 from rfl) (by simp)]
      simp only [go_sem, seval, c32, wh14]
      exact ⟨_, rfl⟩
    obtain ⟨hh, this⟩ := this
    exact callIso_of rfl this (by first | rfl | simp only [go_sem, seval]) (by first | rfl | simp only [go_sem, seval])
noncomputable def f27 (a0 : GPlan) : Option Int :=
  obind (f44 a0.lot) fun v1 =>
  obind (f28 a0.sample 1 a0.lot) fun v3 =>
  obind (f28 a0.accept 0 (wrapF .i64 (a0.sample - 1))) fun v5 =>
  obind (f32 (some [v1, v3, v5])) fun v7 =>
  some v7
theorem W27 {a0 : GPlan} {r} (h : f27 a0 = some r) : callIso pr (X pr) 27 [.agg [.int .i64 a0.lot, .int .i64 a0.sample, .int .i64 a0.accept]] = some (.int .i64 r, false) := by
  unfold f27 at h
  obtain ⟨v1, h2, h⟩ := obind_some h
  have wh2 : callIso pr (X pr) 44 [.int .i64 a0.lot] = some (.int .i64 v1, false) := W44 h2
  obtain ⟨v3, h4, h⟩ := obind_some h
  have wh4 : callIso pr (X pr) 28 [.int .i64 a0.sample, .int .i64 1, .int .i64 a0.lot] = some (.int .i64 v3, false) := W28 h4
  obtain ⟨v5, h6, h⟩ := obind_some h
  have wh6 : callIso pr (X pr) 28 [.int .i64 a0.accept, .int .i64 0, .int .i64 (wrapF .i64 (a0.sample - 1))] = some (.int .i64 v5, false) := W28 h6
  obtain ⟨v7, h8, h⟩ := obind_some h
  have wh8 : callIso pr (X pr) 32 [.list false 1 [.int .i64 v1, .int .i64 v3, .int .i64 v5]] = some (.int .i64 v7, false) := W32 h8
  have hr : v7 = r := Option.some.inj h
  subst hr
  have this : ∃ hh, callFn pr (X pr) 27 [.agg [.int .i64 a0.lot, .int .i64 a0.sample, .int .i64 a0.accept]] [] = some (.int .i64 v7, false, hh) := by
    rw [callFn_at (show pr.fns 27 = some c27 from rfl) (by simp)]
    simp only [go_sem, seval, c27, wh2, wh4, wh6, wh8]
    exact ⟨_, rfl⟩
  obtain ⟨hh, this⟩ := this
  exact callIso_of rfl this (by first | rfl | simp only [go_sem, seval]) (by first | rfl | simp only [go_sem, seval])
noncomputable def s61_0 (a0 : Int) (a1 : Int) (s0 : Int × Int) : Option ((Int × Int) ⊕ ((Int × Int))) :=
  cond (decide (s0.2 < a1))
   (obind (quoO .i64 (wrapF .i64 (s0.1 * (wrapF .i64 (a0 - s0.2)))) (wrapF .i64 (s0.2 + 1))) fun v10 =>
    some (.inl (v10, wrapF .i64 (s0.2 + 1))))
   (some (.inr (s0.1, s0.2)))
def St61_0 (a0 : Int) (a1 : Int) (s0 : Int × Int) : ASt := ⟨[(0, .int .i64 a0, false), (5, .int .i64 s0.1, false), (14, .int .i64 a1, false), (15, .int .i64 s0.2, false)], []⟩
def Ex61_0 (a0 : Int) (a1 : Int) (d : (Int × Int)) : AExit × ASt := (.exit 0, ⟨[(0, .int .i64 a0, false), (5, .int .i64 d.1, false), (14, .int .i64 a1, false), (15, .int .i64 d.2, false), (16, .bool false, false)], []⟩)
theorem b61_0 (a0 : Int) (a1 : Int) (s0 : Int × Int) (r) (h : s61_0 a0 a1 s0 = some r) : stepO pr c61_0 (St61_0 a0 a1) (Ex61_0 a0 a1) s0 r := by
  unfold s61_0 at h
  rcases cond_split h with ⟨h9, h⟩ | ⟨h9, h⟩
  · obtain ⟨v10, h11, h⟩ := obind_some h
    cases h
    exact stepO_in (st' := ⟨[(0, .int .i64 a0, false), (5, .int .i64 v10, false), (14, .int .i64 a1, false), (15, .int .i64 (wrapF .i64 (s0.2 + 1)), false)], []⟩) (by simp only [go_sem, seval, c61_0, St61_0, h9, b_quo_O h11] <;> rfl) (gc_same (Nat.le_refl _))
  · cases h
    exact stepO_out (by simp only [go_sem, seval, c61_0, St61_0, h9, Ex61_0] <;> rfl)
theorem l61_0 (a0 : Int) (a1 : Int) {s0 : Int × Int} {d} (h : itO (s61_0 a0 a1) s0 = some d) : X pr (.loop c61_0) (St61_0 a0 a1 s0) = some (Ex61_0 a0 a1 d) := X_itO (b61_0 a0 a1) (fun d hh => by cases hh) h
noncomputable def f61 (a0 : Int) (a1 : Int) : Option Int :=
  cond (decide (a1 < 0))
   (some 0)
   (cond (decide (a0 < a1))
     (some 0)
     (obind (itO (s61_0 a0 a1) (1, 0)) fun d12 =>
      some d12.1))
theorem W61 {a0 : Int} {a1 : Int} {r} (h : f61 a0 a1 = some r) : callIso pr (X pr) 61 [.int .i64 a0, .int .i64 a1] = some (.int .i64 r, false) := by
  unfold f61 at h
  rcases cond_split h with ⟨h1, h⟩ | ⟨h1, h⟩
  · have hr : 0 = r := Option.some.inj h
    subst hr
    have this : ∃ hh, callFn pr (X pr) 61 [.int .i64 a0, .int .i64 a1] [] = some (.int .i64 0, false, hh) := by
      rw [callFn_at (show pr.fns 61 = some c61 from rfl) (by simp)]
      simp only [go_sem, seval, c61, h1]
      exact ⟨_, rfl⟩
    obtain ⟨hh, this⟩ := this
    exact callIso_of rfl this (by first | rfl | simp only [go_sem, seval]) (by first | rfl | simp only [go_sem, seval])
  · rcases cond_split h with ⟨h2, h⟩ | ⟨h2, h⟩
    · have hr : 0 = r := Option.some.inj h
      subst hr
      have this : ∃ hh, callFn pr (X pr) 61 [.int .i64 a0, .int .i64 a1] [] = some (.int .i64 0, false, hh) := by
        rw [callFn_at (show pr.fns 61 = some c61 from rfl) (by simp)]
        simp only [go_sem, seval, c61, h1, h2]
        exact ⟨_, rfl⟩
      obtain ⟨hh, this⟩ := this
      exact callIso_of rfl this (by first | rfl | simp only [go_sem, seval]) (by first | rfl | simp only [go_sem, seval])
    · obtain ⟨d12, h13, h⟩ := obind_some h
      have wh13 : X pr (.loop c61_0) ⟨[(0, .int .i64 a0, false), (5, .int .i64 1, false), (14, .int .i64 a1, false), (15, .int .i64 0, false)], []⟩ = some (.exit 0, ⟨[(0, .int .i64 a0, false), (5, .int .i64 d12.1, false), (14, .int .i64 a1, false), (15, .int .i64 d12.2, false), (16, .bool false, false)], []⟩) := l61_0 a0 a1 h13
      have hr : d12.1 = r := Option.some.inj h
      subst hr
      have this : ∃ hh, callFn pr (X pr) 61 [.int .i64 a0, .int .i64 a1] [] = some (.int .i64 d12.1, false, hh) := by
        rw [callFn_at (show pr.fns 61 = some c61 from rfl) (by simp)]
        simp only [go_sem, seval, c61, h1, h2, wh13]
        exact ⟨_, rfl⟩
      obtain ⟨hh, this⟩ := this
      exact callIso_of rfl this (by first | rfl | simp only [go_sem, seval]) (by first | rfl | simp only [go_sem, seval])
noncomputable def s30_0 (a0 : GPlan) (a1 : Int) (s0 : Int × Int) : Option ((Int × Int) ⊕ ((Int × Int))) :=
  cond (decide (s0.2 < (wrapF .i64 (a0.accept + 1))))
   (obind (f61 a1 s0.2) fun v12 =>
    obind (f61 (wrapF .i64 (a0.lot - a1)) (wrapF .i64 (a0.sample - s0.2))) fun v14 =>
    some (.inl (wrapF .i64 (s0.1 + (wrapF .i64 (v12 * v14))), wrapF .i64 (s0.2 + 1))))
   (some (.inr (s0.1, s0.2)))
def St30_0 (a0 : GPlan) (a1 : Int) (s0 : Int × Int) : ASt := ⟨[(1, .int .i64 a1, false), (2, .ptr 0 0, false), (5, .int .i64 s0.1, false), (9, .int .i64 (wrapF .i64 (a0.accept + 1)), false), (10, .int .i64 s0.2, false)], [.cells [(.int .i64 a0.lot, false), (.int .i64 a0.sample, false), (.int .i64 a0.accept, false)]]⟩
def Ex30_0 (a0 : GPlan) (a1 : Int) (d : (Int × Int)) : AExit × ASt := (.exit 0, ⟨[(1, .int .i64 a1, false), (2, .ptr 0 0, false), (5, .int .i64 d.1, false), (9, .int .i64 (wrapF .i64 (a0.accept + 1)), false), (10, .int .i64 d.2, false), (11, .bool false, false)], [.cells [(.int .i64 a0.lot, false), (.int .i64 a0.sample, false), (.int .i64 a0.accept, false)]]⟩)
theorem b30_0 (a0 : GPlan) (a1 : Int) (s0 : Int × Int) (r) (h : s30_0 a0 a1 s0 = some r) : stepO pr c30_0 (St30_0 a0 a1) (Ex30_0 a0 a1) s0 r := by
  unfold s30_0 at h
  rcases cond_split h with ⟨h11, h⟩ | ⟨h11, h⟩
  · obtain ⟨v12, h13, h⟩ := obind_some h
    have wh13 : callIso pr (X pr) 61 [.int .i64 a1, .int .i64 s0.2] = some (.int .i64 v12, false) := W61 h13
    obtain ⟨v14, h15, h⟩ := obind_some h
    have wh15 : callIso pr (X pr) 61 [.int .i64 (wrapF .i64 (a0.lot - a1)), .int .i64 (wrapF .i64 (a0.sample - s0.2))] = some (.int .i64 v14, false) := W61 h15
    cases h
    exact stepO_in (st' := ⟨[(1, .int .i64 a1, false), (2, .ptr 0 0, false), (5, .int .i64 (wrapF .i64 (s0.1 + (wrapF .i64 (v12 * v14)))), false), (9, .int .i64 (wrapF .i64 (a0.accept + 1)), false), (10, .int .i64 (wrapF .i64 (s0.2 + 1)), false)], [.cells [(.int .i64 a0.lot, false), (.int .i64 a0.sample, false), (.int .i64 a0.accept, false)]]⟩) (by simp only [go_sem, seval, c30_0, St30_0, h11, wh13, wh15] <;> rfl) (gc_same (Nat.le_refl _))
  · cases h
    exact stepO_out (by simp only [go_sem, seval, c30_0, St30_0, h11, Ex30_0] <;> rfl)
theorem l30_0 (a0 : GPlan) (a1 : Int) {s0 : Int × Int} {d} (h : itO (s30_0 a0 a1) s0 = some d) : X pr (.loop c30_0) (St30_0 a0 a1 s0) = some (Ex30_0 a0 a1 d) := X_itO (b30_0 a0 a1) (fun d hh => by cases hh) h
noncomputable def f30 (a0 : GPlan) (a1 : Int) : Option Int :=
  obind (itO (s30_0 a0 a1) (0, 0)) fun d16 =>
  some d16.1
theorem W30 {a0 : GPlan} {a1 : Int} {r} (h : f30 a0 a1 = some r) : callIso pr (X pr) 30 [.agg [.int .i64 a0.lot, .int .i64 a0.sample, .int .i64 a0.accept], .int .i64 a1] = some (.int .i64 r, false) := by
  unfold f30 at h
  obtain ⟨d16, h17, h⟩ := obind_some h
  have wh17 : X pr (.loop c30_0) ⟨[(1, .int .i64 a1, false), (2, .ptr 0 0, false), (5, .int .i64 0, false), (9, .int .i64 (wrapF .i64 (a0.accept + 1)), false), (10, .int .i64 0, false)], [.cells [(.int .i64 a0.lot, false), (.int .i64 a0.sample, false), (.int .i64 a0.accept, false)]]⟩ = some (.exit 0, ⟨[(1, .int .i64 a1, false), (2, .ptr 0 0, false), (5, .int .i64 d16.1, false), (9, .int .i64 (wrapF .i64 (a0.accept + 1)), false), (10, .int .i64 d16.2, false), (11, .bool false, false)], [.cells [(.int .i64 a0.lot, false), (.int .i64 a0.sample, false), (.int .i64 a0.accept, false)]]⟩) := l30_0 a0 a1 h17
  have hr : d16.1 = r := Option.some.inj h
  subst hr
  have this : ∃ hh, callFn pr (X pr) 30 [.agg [.int .i64 a0.lot, .int .i64 a0.sample, .int .i64 a0.accept], .int .i64 a1] [] = some (.int .i64 d16.1, false, hh) := by
    rw [callFn_at (show pr.fns 30 = some c30 from rfl) (by simp)]
    simp only [go_sem, seval, c30, wh17]
    exact ⟨_, rfl⟩
  obtain ⟨hh, this⟩ := this
  exact callIso_of rfl this (by first | rfl | simp only [go_sem, seval]) (by first | rfl | simp only [go_sem, seval])
noncomputable def f31 (a0 : GPlan) : Option Int :=
  obind (f61 a0.lot a0.sample) fun v1 =>
  some v1
theorem W31 {a0 : GPlan} {r} (h : f31 a0 = some r) : callIso pr (X pr) 31 [.agg [.int .i64 a0.lot, .int .i64 a0.sample, .int .i64 a0.accept]] = some (.int .i64 r, false) := by
  unfold f31 at h
  obtain ⟨v1, h2, h⟩ := obind_some h
  have wh2 : callIso pr (X pr) 61 [.int .i64 a0.lot, .int .i64 a0.sample] = some (.int .i64 v1, false) := W61 h2
  have hr : v1 = r := Option.some.inj h
  subst hr
  have this : ∃ hh, callFn pr (X pr) 31 [.agg [.int .i64 a0.lot, .int .i64 a0.sample, .int .i64 a0.accept]] [] = some (.int .i64 v1, false, hh) := by
    rw [callFn_at (show pr.fns 31 = some c31 from rfl) (by simp)]
    simp only [go_sem, seval, c31, wh2]
    exact ⟨_, rfl⟩
  obtain ⟨hh, this⟩ := this
  exact callIso_of rfl this (by first | rfl | simp only [go_sem, seval]) (by first | rfl | simp only [go_sem, seval])
noncomputable def s29_0 (a0 : Int) (a1 : Int) (s0 : Int × Int) : Option ((Int × Int) ⊕ ((Int × Int))) :=
  cond (decide (s0.2 = 0))
   (some (.inr (s0.1, s0.2)))
   (obind (remO s0.1 s0.2) fun v8 =>
    some (.inl (s0.2, v8)))
def St29_0 (a0 : Int) (a1 : Int) (s0 : Int × Int) : ASt := ⟨[(0, .int .i64 a0, false), (1, .int .i64 a1, false), (4, .ptr 0 0, false), (5, .int .i64 s0.1, false), (6, .int .i64 s0.2, false)], [.cells [(.int .i64 0, false), (.int .i64 0, false)]]⟩
def Ex29_0 (a0 : Int) (a1 : Int) (d : (Int × Int)) : AExit × ASt := (.exit 0, ⟨[(0, .int .i64 a0, false), (1, .int .i64 a1, false), (4, .ptr 0 0, false), (5, .int .i64 d.1, false), (6, .int .i64 d.2, false), (10, .bool false, false)], [.cells [(.int .i64 0, false), (.int .i64 0, false)]]⟩)
theorem b29_0 (a0 : Int) (a1 : Int) (s0 : Int × Int) (r) (h : s29_0 a0 a1 s0 = some r) : stepO pr c29_0 (St29_0 a0 a1) (Ex29_0 a0 a1) s0 r := by
  unfold s29_0 at h
  rcases cond_split h with ⟨h7, h⟩ | ⟨h7, h⟩
  · cases h
    exact stepO_out (by simp only [go_sem, seval, c29_0, St29_0, h7, Ex29_0] <;> rfl)
  · obtain ⟨v8, h9, h⟩ := obind_some h
    cases h
    exact stepO_in (st' := ⟨[(0, .int .i64 a0, false), (1, .int .i64 a1, false), (4, .ptr 0 0, false), (5, .int .i64 s0.2, false), (6, .int .i64 v8, false)], [.cells [(.int .i64 0, false), (.int .i64 0, false)]]⟩) (by simp only [go_sem, seval, c29_0, St29_0, h7, b_rem_O h9] <;> rfl) (gc_same (Nat.le_refl _))
theorem l29_0 (a0 : Int) (a1 : Int) {s0 : Int × Int} {d} (h : itO (s29_0 a0 a1) s0 = some d) : X pr (.loop c29_0) (St29_0 a0 a1 s0) = some (Ex29_0 a0 a1 d) := X_itO (b29_0 a0 a1) (fun d hh => by cases hh) h
noncomputable def f29 (a0 : Int) (a1 : Int) : Option GRat :=
  obind (itO (s29_0 a0 a1) (a0, a1)) fun d10 =>
  obind (quoO .i64 a0 d10.1) fun v12 =>
  obind (quoO .i64 a1 d10.1) fun v14 =>
  some (⟨v12, v14⟩)
theorem W29 {a0 : Int} {a1 : Int} {r} (h : f29 a0 a1 = some r) : callIso pr (X pr) 29 [.int .i64 a0, .int .i64 a1] = some (.agg [.int .i64 r.num, .int .i64 r.den], false) := by
  unfold f29 at h
  obtain ⟨d10, h11, h⟩ := obind_some h
  have wh11 : X pr (.loop c29_0) ⟨[(0, .int .i64 a0, false), (1, .int .i64 a1, false), (4, .ptr 0 0, false), (5, .int .i64 a0, false), (6, .int .i64 a1, false)], [.cells [(.int .i64 0, false), (.int .i64 0, false)]]⟩ = some (.exit 0, ⟨[(0, .int .i64 a0, false), (1, .int .i64 a1, false), (4, .ptr 0 0, false), (5, .int .i64 d10.1, false), (6, .int .i64 d10.2, false), (10, .bool false, false)], [.cells [(.int .i64 0, false), (.int .i64 0, false)]]⟩) := l29_0 a0 a1 h11
  obtain ⟨v12, h13, h⟩ := obind_some h
  obtain ⟨v14, h15, h⟩ := obind_some h
  have hr : ⟨v12, v14⟩ = r := Option.some.inj h
  subst hr
  have this : ∃ hh, callFn pr (X pr) 29 [.int .i64 a0, .int .i64 a1] [] = some (.agg [.int .i64 v12, .int .i64 v14], false, hh) := by
    rw [callFn_at (show pr.fns 29 = some c29 from rfl) (by simp)]
    simp only [go_sem, seval, c29, wh11, b_quo_O h13, b_quo_O h15]
    exact ⟨_, rfl⟩
  obtain ⟨hh, this⟩ := this
  exact callIso_of rfl this (by first | rfl | simp only [go_sem, seval]) (by first | rfl | simp only [go_sem, seval])
noncomputable def f6 (a0 : GPlan) (a1 : Int) : Option (GRat × Int) :=
  obind (f27 a0) fun v1 =>
  cond (decide (v1 = 0))
   (obind (f28 a1 0 a0.lot) fun v4 =>
    cond (decide (v4 = 0))
     (obind (f30 a0 a1) fun v7 =>
      obind (f31 a0) fun v9 =>
      obind (f29 v7 v9) fun v11 =>
      some (v11, 0))
     (some (⟨0, 0⟩, v4)))
   (some (⟨0, 0⟩, v1))
theorem W6 {a0 : GPlan} {a1 : Int} {r} (h : f6 a0 a1 = some r) : callIso pr (X pr) 6 [.agg [.int .i64 a0.lot, .int .i64 a0.sample, .int .i64 a0.accept], .int .i64 a1] = some (.tup [.agg [.int .i64 r.1.num, .int .i64 r.1.den], .int .i64 r.2], false) := by
  unfold f6 at h
  obtain ⟨v1, h2, h⟩ := obind_some h
  have wh2 : callIso pr (X pr) 27 [.agg [.int .i64 a0.lot, .int .i64 a0.sample, .int .i64 a0.accept]] = some (.int .i64 v1, false) := W27 h2
  rcases cond_split h with ⟨h3, h⟩ | ⟨h3, h⟩
  · obtain ⟨v4, h5, h⟩ := obind_some h
    have wh5 : callIso pr (X pr) 28 [.int .i64 a1, .int .i64 0, .int .i64 a0.lot] = some (.int .i64 v4, false) := W28 h5
    rcases cond_split h with ⟨h6, h⟩ | ⟨h6, h⟩
    · obtain ⟨v7, h8, h⟩ := obind_some h
      have wh8 : callIso pr (X pr) 30 [.agg [.int .i64 a0.lot, .int .i64 a0.sample, .int .i64 a0.accept], .int .i64 a1] = some (.int .i64 v7, false) := W30 h8
      obtain ⟨v9, h10, h⟩ := obind_some h
      have wh10 : callIso pr (X pr) 31 [.agg [.int .i64 a0.lot, .int .i64 a0.sample, .int .i64 a0.accept]] = some (.int .i64 v9, false) := W31 h10
      obtain ⟨v11, h12, h⟩ := obind_some h
      have wh12 : callIso pr (X pr) 29 [.int .i64 v7, .int .i64 v9] = some (.agg [.int .i64 v11.num, .int .i64 v11.den], false) := W29 h12
      have hr : (v11, 0) = r := Option.some.inj h
      subst hr
      have this : ∃ hh, callFn pr (X pr) 6 [.agg [.int .i64 a0.lot, .int .i64 a0.sample, .int .i64 a0.accept], .int .i64 a1] [] = some (.tup [.agg [.int .i64 v11.num, .int .i64 v11.den], .int .i64 0], false, hh) := by
        rw [callFn_at (show pr.fns 6 = some c6 from rfl) (by simp)]
        simp only [go_sem, seval, c6, wh2, h3, wh5, h6, wh8, wh10, wh12]
        exact ⟨_, rfl⟩
      obtain ⟨hh, this⟩ := this
      exact callIso_of rfl this (by first | rfl | simp only [go_sem, seval]) (by first | rfl | simp only [go_sem, seval])
    · have hr : (⟨0, 0⟩, v4) = r := Option.some.inj h
      subst hr
      have this : ∃ hh, callFn pr (X pr) 6 [.agg [.int .i64 a0.lot, .int .i64 a0.sample, .int .i64 a0.accept], .int .i64 a1] [] = some (.tup [.agg [.int .i64 0, .int .i64 0], .int .i64 v4], false, hh) := by
        rw [callFn_at (show pr.fns 6 = some c6 from rfl) (by simp)]
        simp only [go_sem, seval, c6, wh2, h3, wh5, h6]
        exact ⟨_, rfl⟩
      obtain ⟨hh, this⟩ := this
      exact callIso_of rfl this (by first | rfl | simp only [go_sem, seval]) (by first | rfl | simp only [go_sem, seval])
  · have hr : (⟨0, 0⟩, v1) = r := Option.some.inj h
    subst hr
    have this : ∃ hh, callFn pr (X pr) 6 [.agg [.int .i64 a0.lot, .int .i64 a0.sample, .int .i64 a0.accept], .int .i64 a1] [] = some (.tup [.agg [.int .i64 0, .int .i64 0], .int .i64 v1], false, hh) := by
      rw [callFn_at (show pr.fns 6 = some c6 from rfl) (by simp)]
      simp only [go_sem, seval, c6, wh2, h3]
      exact ⟨_, rfl⟩
    obtain ⟨hh, this⟩ := this
    exact callIso_of rfl this (by first | rfl | simp only [go_sem, seval]) (by first | rfl | simp only [go_sem, seval])
noncomputable def s7_0 (a0 : GPlan) (a1 : Option (List Bool)) (s0 : Int × Int) : Option ((Int × Int) ⊕ ((Bool × Int) ⊕ (Int × Int))) :=
  cond (decide (s0.2 < ((a1.getD []).length : Int)))
   (obind (idxO (a1.getD []) s0.2) fun v25 =>
    cond v25
     (cond (decide (a0.accept < (wrapF .i64 (s0.1 + 1))))
       (some (.inr (.inl (false, wrapF .i64 (s0.2 + 1)))))
       (cond (decide ((wrapF .i64 (a0.sample - (wrapF .i64 ((wrapF .i64 (s0.2 + 1)) - (wrapF .i64 (s0.1 + 1)))))) ≤ a0.accept))
         (some (.inr (.inl (true, wrapF .i64 (s0.2 + 1)))))
         (some (.inl (wrapF .i64 (s0.1 + 1), wrapF .i64 (s0.2 + 1))))))
     (cond (decide (a0.accept < s0.1))
       (some (.inr (.inl (false, wrapF .i64 (s0.2 + 1)))))
       (cond (decide ((wrapF .i64 (a0.sample - (wrapF .i64 ((wrapF .i64 (s0.2 + 1)) - s0.1)))) ≤ a0.accept))
         (some (.inr (.inl (true, wrapF .i64 (s0.2 + 1)))))
         (some (.inl (s0.1, wrapF .i64 (s0.2 + 1)))))))
   (some (.inr (.inr (s0.1, s0.2))))
def St7_0 (a0 : GPlan) (a1 : Option (List Bool)) (s0 : Int × Int) : ASt := ⟨[(2, .ptr 0 0, false), (8, .int .i64 s0.1, false), (25, sl 1 vbool a1, false), (26, .int .i64 ((a1.getD []).length : Int), false), (27, .int .i64 s0.2, false)], [.cells [(.int .i64 a0.lot, false), (.int .i64 a0.sample, false), (.int .i64 a0.accept, false)]]⟩
def Ex7_0 (a0 : GPlan) (a1 : Option (List Bool)) : (Bool × Int) ⊕ (Int × Int) → AExit × ASt
  | .inl d => (.ret, ⟨[(4, .bool d.1, false), (5, .int .i64 d.2, false), (6, .int .i64 0, false)], [.cells [(.int .i64 a0.lot, false), (.int .i64 a0.sample, false), (.int .i64 a0.accept, false)]]⟩)
  | .inr d => (.exit 0, ⟨[(2, .ptr 0 0, false), (8, .int .i64 d.1, false), (25, sl 1 vbool a1, false), (26, .int .i64 ((a1.getD []).length : Int), false), (27, .int .i64 d.2, false), (28, .bool false, false)], [.cells [(.int .i64 a0.lot, false), (.int .i64 a0.sample, false), (.int .i64 a0.accept, false)]]⟩)
theorem b7_0 (a0 : GPlan) (a1 : Option (List Bool)) (s0 : Int × Int) (r) (h : s7_0 a0 a1 s0 = some r) : stepO pr c7_0 (St7_0 a0 a1) (Ex7_0 a0 a1) s0 r := by
  unfold s7_0 at h
  rcases cond_split h with ⟨h24, h⟩ | ⟨h24, h⟩
  · obtain ⟨v25, h26, h⟩ := obind_some h
    rcases cond_split h with ⟨h27, h⟩ | ⟨h27, h⟩
    · rcases cond_split h with ⟨h28, h⟩ | ⟨h28, h⟩
      · cases h
        exact stepO_out (by simp only [go_sem, seval, c7_0, St7_0, h24, idxR_O h26, h27, h28, Ex7_0] <;> rfl)
      · rcases cond_split h with ⟨h29, h⟩ | ⟨h29, h⟩
        · cases h
          exact stepO_out (by simp only [go_sem, seval, c7_0, St7_0, h24, idxR_O h26, h27, h28, h29, Ex7_0] <;> rfl)
        · cases h
          exact stepO_in (st' := ⟨[(2, .ptr 0 0, false), (8, .int .i64 (wrapF .i64 (s0.1 + 1)), false), (25, sl 1 vbool a1, false), (26, .int .i64 ((a1.getD []).length : Int), false), (27, .int .i64 (wrapF .i64 (s0.2 + 1)), false)], [.cells [(.int .i64 a0.lot, false), (.int .i64 a0.sample, false), (.int .i64 a0.accept, false)]]⟩) (by simp only [go_sem, seval, c7_0, St7_0, h24, idxR_O h26, h27, h28, h29] <;> rfl) (gc_same (Nat.le_refl _))
    · rcases cond_split h with ⟨h30, h⟩ | ⟨h30, h⟩
      · cases h
        exact stepO_out (by simp only [go_sem, seval, c7_0, St7_0, h24, idxR_O h26, h27, h30, Ex7_0] <;> rfl)
      · rcases cond_split h with ⟨h31, h⟩ | ⟨h31, h⟩
        · cases h
          exact stepO_out (by simp only [go_sem, seval, c7_0, St7_0, h24, idxR_O h26, h27, h30, h31, Ex7_0] <;> rfl)
        · cases h
          exact stepO_in (st' := ⟨[(2, .ptr 0 0, false), (8, .int .i64 s0.1, false), (25, sl 1 vbool a1, false), (26, .int .i64 ((a1.getD []).length : Int), false), (27, .int .i64 (wrapF .i64 (s0.2 + 1)), false)], [.cells [(.int .i64 a0.lot, false), (.int .i64 a0.sample, false), (.int .i64 a0.accept, false)]]⟩) (by simp only [go_sem, seval, c7_0, St7_0, h24, idxR_O h26, h27, h30, h31] <;> rfl) (gc_same (Nat.le_refl _))
  · cases h
    exact stepO_out (by simp only [go_sem, seval, c7_0, St7_0, h24, Ex7_0] <;> rfl)
theorem l7_0 (a0 : GPlan) (a1 : Option (List Bool)) {s0 : Int × Int} {d} (h : itO (s7_0 a0 a1) s0 = some d) : X pr (.loop c7_0) (St7_0 a0 a1 s0) = some (Ex7_0 a0 a1 d) := X_itO (b7_0 a0 a1) (fun d => by rcases d with d|d <;> (intro hh; cases hh)) h
noncomputable def f7 (a0 : GPlan) (a1 : Option (List Bool)) : Option (Bool × Int × Int) :=
  obind (f27 a0) fun v1 =>
  obind (f33 (decide (a0.sample < ((a1.getD []).length : Int))) 5) fun v3 =>
  obind (f32 (some [v1, v3])) fun v5 =>
  cond (decide (v5 = 0))
   (obind (itO (s7_0 a0 a1) (0, 0)) fun d32 => match d32 with
      | .inl d34 =>
        some (d34.1, d34.2, 0)
      | .inr d35 =>
        some (false, 0, 7))
   (some (false, 0, v5))
theorem W7 {a0 : GPlan} {a1 : Option (List Bool)} {r} (h : f7 a0 a1 = some r) : callIso pr (X pr) 7 [.agg [.int .i64 a0.lot, .int .i64 a0.sample, .int .i64 a0.accept], sl 1 vbool a1] = some (.tup [.bool r.1, .int .i64 r.2.1, .int .i64 r.2.2], false) := by
  unfold f7 at h
  obtain ⟨v1, h2, h⟩ := obind_some h
  have wh2 : callIso pr (X pr) 27 [.agg [.int .i64 a0.lot, .int .i64 a0.sample, .int .i64 a0.accept]] = some (.int .i64 v1, false) := W27 h2
  obtain ⟨v3, h4, h⟩ := obind_some h
  have wh4 : callIso pr (X pr) 33 [.bool (decide (a0.sample < ((a1.getD []).length : Int))), .int .i64 5] = some (.int .i64 v3, false) := W33 h4
  obtain ⟨v5, h6, h⟩ := obind_some h
  have wh6 : callIso pr (X pr) 32 [.list false 1 [.int .i64 v1, .int .i64 v3]] = some (.int .i64 v5, false) := W32 h6
  rcases cond_split h with ⟨h7, h⟩ | ⟨h7, h⟩
  · obtain ⟨d32, h33, h⟩ := obind_some h
    rcases d32 with d34 | d35
    · have wh33 : X pr (.loop c7_0) ⟨[(2, .ptr 0 0, false), (8, .int .i64 0, false), (25, sl 1 vbool a1, false), (26, .int .i64 ((a1.getD []).length : Int), false), (27, .int .i64 0, false)], [.cells [(.int .i64 a0.lot, false), (.int .i64 a0.sample, false), (.int .i64 a0.accept, false)]]⟩ = some (.ret, ⟨[(4, .bool d34.1, false), (5, .int .i64 d34.2, false), (6, .int .i64 0, false)], [.cells [(.int .i64 a0.lot, false), (.int .i64 a0.sample, false), (.int .i64 a0.accept, false)]]⟩) := l7_0 a0 a1 h33
      have hr : (d34.1, d34.2, 0) = r := Option.some.inj h
      subst hr
      have this : ∃ hh, callFn pr (X pr) 7 [.agg [.int .i64 a0.lot, .int .i64 a0.sample, .int .i64 a0.accept], sl 1 vbool a1] [] = some (.tup [.bool d34.1, .int .i64 d34.2, .int .i64 0], false, hh) := by
        rw [callFn_at (show pr.fns 7 = some c7 from rfl) (by simp)]
        simp only [go_sem, seval, c7, wh2, wh4, wh6, h7, wh33]
        exact ⟨_, rfl⟩
      obtain ⟨hh, this⟩ := this
      exact callIso_of rfl this (by first | rfl | simp only [go_sem, seval]) (by first | rfl | simp only [go_sem, seval])
    · have wh33 : X pr (.loop c7_0) ⟨[(2, .ptr 0 0, false), (8, .int .i64 0, false), (25, sl 1 vbool a1, false), (26, .int .i64 ((a1.getD []).length : Int), false), (27, .int .i64 0, false)], [.cells [(.int .i64 a0.lot, false), (.int .i64 a0.sample, false), (.int .i64 a0.accept, false)]]⟩ = some (.exit 0, ⟨[(2, .ptr 0 0, false), (8, .int .i64 d35.1, false), (25, sl 1 vbool a1, false), (26, .int .i64 ((a1.getD []).length : Int), false), (27, .int .i64 d35.2, false), (28, .bool false, false)], [.cells [(.int .i64 a0.lot, false), (.int .i64 a0.sample, false), (.int .i64 a0.accept, false)]]⟩) := l7_0 a0 a1 h33
      have hr : (false, 0, 7) = r := Option.some.inj h
      subst hr
      have this : ∃ hh, callFn pr (X pr) 7 [.agg [.int .i64 a0.lot, .int .i64 a0.sample, .int .i64 a0.accept], sl 1 vbool a1] [] = some (.tup [.bool false, .int .i64 0, .int .i64 7], false, hh) := by
        rw [callFn_at (show pr.fns 7 = some c7 from rfl) (by simp)]
        simp only [go_sem, seval, c7, wh2, wh4, wh6, h7, wh33]
        exact ⟨_, rfl⟩
      obtain ⟨hh, this⟩ := this
      exact callIso_of rfl this (by first | rfl | simp only [go_sem, seval]) (by first | rfl | simp only [go_sem, seval])
  · have hr : (false, 0, v5) = r := Option.some.inj h
    subst hr
    have this : ∃ hh, callFn pr (X pr) 7 [.agg [.int .i64 a0.lot, .int .i64 a0.sample, .int .i64 a0.accept], sl 1 vbool a1] [] = some (.tup [.bool false, .int .i64 0, .int .i64 v5], false, hh) := by
      rw [callFn_at (show pr.fns 7 = some c7 from rfl) (by simp)]
      simp only [go_sem, seval, c7, wh2, wh4, wh6, h7]
      exact ⟨_, rfl⟩
    obtain ⟨hh, this⟩ := this
    exact callIso_of rfl this (by first | rfl | simp only [go_sem, seval]) (by first | rfl | simp only [go_sem, seval])
noncomputable def s3_1 (a0 : GPlan) (v8 : Int) (v10 : GRat × Int) (v17 : Int) (s0 : Int × Int × Int) (s1 : (Option (List Bool)) × Int × Int × Bool) : Option (((Option (List Bool)) × Int × Int × Bool) ⊕ (((Option (List Bool)) × Bool × Int × Int))) :=
  cond (decide (s1.2.2.1 < a0.lot))
   (obind (shrO .i64 s0.2.2 s1.2.2.1) fun v244 =>
    cond (decide ((bitF .and .i64 v244 1) = 1))
     (cond (decide (s1.2.2.1 < v8))
       (cond s1.2.2.2
         (obind (apO s1.1 [true]) fun v249 =>
          some (.inl (v249, wrapF .i64 (s1.2.1 + 1), wrapF .i64 (s1.2.2.1 + 1), true)))
         (cond s1.1.isNone
           (obind (apO s1.1 [true]) fun v252 =>
            some (.inl (v252, wrapF .i64 (s1.2.1 + 1), wrapF .i64 (s1.2.2.1 + 1), true)))
           (none)))
       (cond s1.2.2.2
         (obind (apO s1.1 [false]) fun v255 =>
          some (.inl (v255, s1.2.1, wrapF .i64 (s1.2.2.1 + 1), true)))
         (cond s1.1.isNone
           (obind (apO s1.1 [false]) fun v258 =>
            some (.inl (v258, s1.2.1, wrapF .i64 (s1.2.2.1 + 1), true)))
           (none))))
     (some (.inl (s1.1, s1.2.1, wrapF .i64 (s1.2.2.1 + 1), s1.2.2.2))))
   (some (.inr (s1.1, s1.2.2.2, s1.2.1, s1.2.2.1)))
def St3_1 (a0 : GPlan) (v8 : Int) (v10 : GRat × Int) (v17 : Int) (s0 : Int × Int × Int) (s1 : (Option (List Bool)) × Int × Int × Bool) : ASt := ⟨[(2, .ptr 0 0, false), (5, .int .i64 v8, false), (6, .ptr 1 0, false), (8, .int .i64 s0.1, false), (9, .int .i64 s0.2.1, false), (10, .int .i64 s0.2.2, false), (11, sl 1 vbool s1.1, s1.2.2.2), (12, .int .i64 s1.2.1, false), (78, .int .i64 v17, false), (79, .int .i64 s0.2.2, false), (83, .int .i64 a0.lot, false), (84, .int .i64 s1.2.2.1, false)], [.cells [(.int .i64 a0.lot, false), (.int .i64 a0.sample, false), (.int .i64 a0.accept, false)], .cells [(.int .i64 v10.1.num, false), (.int .i64 v10.1.den, false)]]⟩
def Ex3_1 (a0 : GPlan) (v8 : Int) (v10 : GRat × Int) (v17 : Int) (s0 : Int × Int × Int) (d : ((Option (List Bool)) × Bool × Int × Int)) : AExit × ASt := (.exit 2, ⟨[(2, .ptr 0 0, false), (5, .int .i64 v8, false), (6, .ptr 1 0, false), (8, .int .i64 s0.1, false), (9, .int .i64 s0.2.1, false), (10, .int .i64 s0.2.2, false), (11, sl 1 vbool d.1, d.2.1), (12, .int .i64 d.2.2.1, false), (78, .int .i64 v17, false), (79, .int .i64 s0.2.2, false), (83, .int .i64 a0.lot, false), (84, .int .i64 d.2.2.2, false), (85, .bool false, false)], [.cells [(.int .i64 a0.lot, false), (.int .i64 a0.sample, false), (.int .i64 a0.accept, false)], .cells [(.int .i64 v10.1.num, false), (.int .i64 v10.1.den, false)]]⟩)
theorem b3_1 (a0 : GPlan) (v8 : Int) (v10 : GRat × Int) (v17 : Int) (s0 : Int × Int × Int) (s1 : (Option (List Bool)) × Int × Int × Bool) (r) (h : s3_1 a0 v8 v10 v17 s0 s1 = some r) : stepO pr c3_1 (St3_1 a0 v8 v10 v17 s0) (Ex3_1 a0 v8 v10 v17 s0) s1 r := by
  unfold s3_1 at h
  rcases cond_split h with ⟨h243, h⟩ | ⟨h243, h⟩
  · obtain ⟨v244, h245, h⟩ := obind_some h
    rcases cond_split h with ⟨h246, h⟩ | ⟨h246, h⟩
    · rcases cond_split h with ⟨h247, h⟩ | ⟨h247, h⟩
      · rcases cond_split h with ⟨h248, h⟩ | ⟨h248, h⟩
        · obtain ⟨v249, h250, h⟩ := obind_some h
          cases h
          exact stepO_in (st' := ⟨[(2, .ptr 0 0, false), (5, .int .i64 v8, false), (6, .ptr 1 0, false), (8, .int .i64 s0.1, false), (9, .int .i64 s0.2.1, false), (10, .int .i64 s0.2.2, false), (11, sl 1 vbool v249, true), (12, .int .i64 (wrapF .i64 (s1.2.1 + 1)), false), (78, .int .i64 v17, false), (79, .int .i64 s0.2.2, false), (83, .int .i64 a0.lot, false), (84, .int .i64 (wrapF .i64 (s1.2.2.1 + 1)), false)], [.cells [(.int .i64 a0.lot, false), (.int .i64 a0.sample, false), (.int .i64 a0.accept, false)], .cells [(.int .i64 v10.1.num, false), (.int .i64 v10.1.den, false)]]⟩) (by simp only [go_sem, seval, c3_1, St3_1, h243, b_shr_O h245, h246, h247, h248, app_vbool_O h250] <;> rfl) (gc_same (Nat.le_refl _))
        · rcases cond_split h with ⟨h251, h⟩ | ⟨h251, h⟩
          · obtain ⟨v252, h253, h⟩ := obind_some h
            cases h
            exact stepO_in (st' := ⟨[(2, .ptr 0 0, false), (5, .int .i64 v8, false), (6, .ptr 1 0, false), (8, .int .i64 s0.1, false), (9, .int .i64 s0.2.1, false), (10, .int .i64 s0.2.2, false), (11, sl 1 vbool v252, true), (12, .int .i64 (wrapF .i64 (s1.2.1 + 1)), false), (78, .int .i64 v17, false), (79, .int .i64 s0.2.2, false), (83, .int .i64 a0.lot, false), (84, .int .i64 (wrapF .i64 (s1.2.2.1 + 1)), false)], [.cells [(.int .i64 a0.lot, false), (.int .i64 a0.sample, false), (.int .i64 a0.accept, false)], .cells [(.int .i64 v10.1.num, false), (.int .i64 v10.1.den, false)]]⟩) (by simp only [go_sem, seval, c3_1, St3_1, h243, b_shr_O h245, h246, h247, h248, h251, app_vbool_N h253 h251] <;> rfl) (gc_same (Nat.le_refl _))
          · cases h
      · rcases cond_split h with ⟨h254, h⟩ | ⟨h254, h⟩
        · obtain ⟨v255, h256, h⟩ := obind_some h
          cases h
          exact stepO_in (st' := ⟨[(2, .ptr 0 0, false), (5, .int .i64 v8, false), (6, .ptr 1 0, false), (8, .int .i64 s0.1, false), (9, .int .i64 s0.2.1, false), (10, .int .i64 s0.2.2, false), (11, sl 1 vbool v255, true), (12, .int .i64 s1.2.1, false), (78, .int .i64 v17, false), (79, .int .i64 s0.2.2, false), (83, .int .i64 a0.lot, false), (84, .int .i64 (wrapF .i64 (s1.2.2.1 + 1)), false)], [.cells [(.int .i64 a0.lot, false), (.int .i64 a0.sample, false), (.int .i64 a0.accept, false)], .cells [(.int .i64 v10.1.num, false), (.int .i64 v10.1.den, false)]]⟩) (by simp only [go_sem, seval, c3_1, St3_1, h243, b_shr_O h245, h246, h247, h254, app_vbool_O h256] <;> rfl) (gc_same (Nat.le_refl _))
        · rcases cond_split h with ⟨h257, h⟩ | ⟨h257, h⟩
          · obtain ⟨v258, h259, h⟩ := obind_some h
            cases h
            exact stepO_in (st' := ⟨[(2, .ptr 0 0, false), (5, .int .i64 v8, false), (6, .ptr 1 0, false), (8, .int .i64 s0.1, false), (9, .int .i64 s0.2.1, false), (10, .int .i64 s0.2.2, false), (11, sl 1 vbool v258, true), (12, .int .i64 s1.2.1, false), (78, .int .i64 v17, false), (79, .int .i64 s0.2.2, false), (83, .int .i64 a0.lot, false), (84, .int .i64 (wrapF .i64 (s1.2.2.1 + 1)), false)], [.cells [(.int .i64 a0.lot, false), (.int .i64 a0.sample, false), (.int .i64 a0.accept, false)], .cells [(.int .i64 v10.1.num, false), (.int .i64 v10.1.den, false)]]⟩) (by simp only [go_sem, seval, c3_1, St3_1, h243, b_shr_O h245, h246, h247, h254, h257, app_vbool_N h259 h257] <;> rfl) (gc_same (Nat.le_refl _))
          · cases h
    · cases h
      exact stepO_in (st' := ⟨[(2, .ptr 0 0, false), (5, .int .i64 v8, false), (6, .ptr 1 0, false), (8, .int .i64 s0.1, false), (9, .int .i64 s0.2.1, false), (10, .int .i64 s0.2.2, false), (11, sl 1 vbool s1.1, s1.2.2.2), (12, .int .i64 s1.2.1, false), (78, .int .i64 v17, false), (79, .int .i64 s0.2.2, false), (83, .int .i64 a0.lot, false), (84, .int .i64 (wrapF .i64 (s1.2.2.1 + 1)), false)], [.cells [(.int .i64 a0.lot, false), (.int .i64 a0.sample, false), (.int .i64 a0.accept, false)], .cells [(.int .i64 v10.1.num, false), (.int .i64 v10.1.den, false)]]⟩) (by simp only [go_sem, seval, c3_1, St3_1, h243, b_shr_O h245, h246] <;> rfl) (gc_same (Nat.le_refl _))
  · cases h
    exact stepO_out (by simp only [go_sem, seval, c3_1, St3_1, h243, Ex3_1] <;> rfl)
theorem l3_1 (a0 : GPlan) (v8 : Int) (v10 : GRat × Int) (v17 : Int) (s0 : Int × Int × Int) {s1 : (Option (List Bool)) × Int × Int × Bool} {d} (h : itO (s3_1 a0 v8 v10 v17 s0) s1 = some d) : X pr (.loop c3_1) (St3_1 a0 v8 v10 v17 s0 s1) = some (Ex3_1 a0 v8 v10 v17 s0 d) := X_itO (b3_1 a0 v8 v10 v17 s0) (fun d hh => by cases hh) h
noncomputable def s3_0 (a0 : GPlan) (v8 : Int) (v10 : GRat × Int) (v17 : Int) (s0 : Int × Int × Int) : Option ((Int × Int × Int) ⊕ (Unit ⊕ (Int × Int × Int))) :=
  cond (decide (s0.2.2 < v17))
   (obind (itO (s3_1 a0 v8 v10 v17 s0) (none, 0, 0, false)) fun d260 =>
    cond (decide (((d260.1.getD []).length : Int) = a0.sample))
     (cond (decide (d260.2.2.1 ≤ a0.accept))
       (obind (apO (some []) (d260.1.getD [])) fun v264 =>
        obind (f7 a0 v264) fun v266 =>
        cond (decide (v266.2.2 = 0))
         (cond (v266.1 == true)
           (cond (decide (v266.2.1 < 1))
             (some (.inr (.inl ())))
             (cond (decide (a0.sample < v266.2.1))
               (some (.inr (.inl ())))
               (obind (cutSO d260.1 none (some v266.2.1)) fun v272 =>
                obind (apO (some []) (v272.getD [])) fun v274 =>
                obind (f7 a0 v274) fun v276 =>
                cond (decide (v276.2.2 = 0))
                 (cond (v276.1 == v266.1)
                   (cond (decide (v276.2.1 = v266.2.1))
                     (obind (cutSO d260.1 none (some (wrapF .i64 (v266.2.1 - 1)))) fun v281 =>
                      obind (apO (some []) (v281.getD [])) fun v283 =>
                      obind (f7 a0 v283) fun v285 =>
                      cond (decide (v285.2.2 = 7))
                       (some (.inl (wrapF .i64 (s0.1 + 1), wrapF .i64 (s0.2.1 + 1), wrapF .i64 (s0.2.2 + 1))))
                       (some (.inr (.inl ()))))
                     (some (.inr (.inl ()))))
                   (some (.inr (.inl ()))))
                 (some (.inr (.inl ()))))))
           (some (.inr (.inl ()))))
         (some (.inr (.inl ()))))
       (obind (apO (some []) (d260.1.getD [])) fun v288 =>
        obind (f7 a0 v288) fun v290 =>
        cond (decide (v290.2.2 = 0))
         (cond (v290.1 == false)
           (cond (decide (v290.2.1 < 1))
             (some (.inr (.inl ())))
             (cond (decide (a0.sample < v290.2.1))
               (some (.inr (.inl ())))
               (obind (cutSO d260.1 none (some v290.2.1)) fun v296 =>
                obind (apO (some []) (v296.getD [])) fun v298 =>
                obind (f7 a0 v298) fun v300 =>
                cond (decide (v300.2.2 = 0))
                 (cond (v300.1 == v290.1)
                   (cond (decide (v300.2.1 = v290.2.1))
                     (obind (cutSO d260.1 none (some (wrapF .i64 (v290.2.1 - 1)))) fun v305 =>
                      obind (apO (some []) (v305.getD [])) fun v307 =>
                      obind (f7 a0 v307) fun v309 =>
                      cond (decide (v309.2.2 = 7))
                       (some (.inl (wrapF .i64 (s0.1 + 1), s0.2.1, wrapF .i64 (s0.2.2 + 1))))
                       (some (.inr (.inl ()))))
                     (some (.inr (.inl ()))))
                   (some (.inr (.inl ()))))
                 (some (.inr (.inl ()))))))
           (some (.inr (.inl ()))))
         (some (.inr (.inl ())))))
     (some (.inl (s0.1, s0.2.1, wrapF .i64 (s0.2.2 + 1)))))
   (some (.inr (.inr (s0.1, s0.2.1, s0.2.2))))
def St3_0 (a0 : GPlan) (v8 : Int) (v10 : GRat × Int) (v17 : Int) (s0 : Int × Int × Int) : ASt := ⟨[(2, .ptr 0 0, false), (5, .int .i64 v8, false), (6, .ptr 1 0, false), (8, .int .i64 s0.1, false), (9, .int .i64 s0.2.1, false), (78, .int .i64 v17, false), (79, .int .i64 s0.2.2, false)], [.cells [(.int .i64 a0.lot, false), (.int .i64 a0.sample, false), (.int .i64 a0.accept, false)], .cells [(.int .i64 v10.1.num, false), (.int .i64 v10.1.den, false)]]⟩
def Ex3_0 (a0 : GPlan) (v8 : Int) (v10 : GRat × Int) (v17 : Int) : Unit ⊕ (Int × Int × Int) → AExit × ASt
  | .inl d => (.ret, ⟨[(4, .bool false, false)], [.cells [(.int .i64 a0.lot, false), (.int .i64 a0.sample, false), (.int .i64 a0.accept, false)], .cells [(.int .i64 v10.1.num, false), (.int .i64 v10.1.den, false)]]⟩)
  | .inr d => (.exit 0, ⟨[(2, .ptr 0 0, false), (5, .int .i64 v8, false), (6, .ptr 1 0, false), (8, .int .i64 d.1, false), (9, .int .i64 d.2.1, false), (78, .int .i64 v17, false), (79, .int .i64 d.2.2, false), (80, .bool false, false)], [.cells [(.int .i64 a0.lot, false), (.int .i64 a0.sample, false), (.int .i64 a0.accept, false)], .cells [(.int .i64 v10.1.num, false), (.int .i64 v10.1.den, false)]]⟩)
theorem b3_0 (a0 : GPlan) (v8 : Int) (v10 : GRat × Int) (v17 : Int) (s0 : Int × Int × Int) (r) (h : s3_0 a0 v8 v10 v17 s0 = some r) : stepO pr c3_0 (St3_0 a0 v8 v10 v17) (Ex3_0 a0 v8 v10 v17) s0 r := by
  unfold s3_0 at h
  rcases cond_split h with ⟨h220, h⟩ | ⟨h220, h⟩
  · obtain ⟨d260, h261, h⟩ := obind_some h
    have wh261 : X pr (.loop c3_1) ⟨[(2, .ptr 0 0, false), (5, .int .i64 v8, false), (6, .ptr 1 0, false), (8, .int .i64 s0.1, false), (9, .int .i64 s0.2.1, false), (10, .int .i64 s0.2.2, false), (11, .list true 0 [], false), (12, .int .i64 0, false), (78, .int .i64 v17, false), (79, .int .i64 s0.2.2, false), (83, .int .i64 a0.lot, false), (84, .int .i64 0, false)], [.cells [(.int .i64 a0.lot, false), (.int .i64 a0.sample, false), (.int .i64 a0.accept, false)], .cells [(.int .i64 v10.1.num, false), (.int .i64 v10.1.den, false)]]⟩ = some (.exit 2, ⟨[(2, .ptr 0 0, false), (5, .int .i64 v8, false), (6, .ptr 1 0, false), (8, .int .i64 s0.1, false), (9, .int .i64 s0.2.1, false), (10, .int .i64 s0.2.2, false), (11, sl 1 vbool d260.1, d260.2.1), (12, .int .i64 d260.2.2.1, false), (78, .int .i64 v17, false), (79, .int .i64 s0.2.2, false), (83, .int .i64 a0.lot, false), (84, .int .i64 d260.2.2.2, false), (85, .bool false, false)], [.cells [(.int .i64 a0.lot, false), (.int .i64 a0.sample, false), (.int .i64 a0.accept, false)], .cells [(.int .i64 v10.1.num, false), (.int .i64 v10.1.den, false)]]⟩) := l3_1 a0 v8 v10 v17 s0 h261
    rcases cond_split h with ⟨h262, h⟩ | ⟨h262, h⟩
    · rcases cond_split h with ⟨h263, h⟩ | ⟨h263, h⟩
      · obtain ⟨v264, h265, h⟩ := obind_some h
        obtain ⟨v266, h267, h⟩ := obind_some h
        have wh267 : callIso pr (X pr) 7 [.agg [.int .i64 a0.lot, .int .i64 a0.sample, .int .i64 a0.accept], sl 1 vbool v264] = some (.tup [.bool v266.1, .int .i64 v266.2.1, .int .i64 v266.2.2], false) := W7 h267
        rcases cond_split h with ⟨h268, h⟩ | ⟨h268, h⟩
        · rcases cond_split h with ⟨h269, h⟩ | ⟨h269, h⟩
          · rcases cond_split h with ⟨h270, h⟩ | ⟨h270, h⟩
            · cases h
              exact stepO_out (by simp only [go_sem, seval, c3_0, St3_0, h220, wh261, h262, h263, app_lit_O h265, wh267, h268, h269, h270, Ex3_0] <;> rfl)
            · rcases cond_split h with ⟨h271, h⟩ | ⟨h271, h⟩
              · cases h
                exact stepO_out (by simp only [go_sem, seval, c3_0, St3_0, h220, wh261, h262, h263, app_lit_O h265, wh267, h268, h269, h270, h271, Ex3_0] <;> rfl)
              · obtain ⟨v272, h273, h⟩ := obind_some h
                obtain ⟨v274, h275, h⟩ := obind_some h
                obtain ⟨v276, h277, h⟩ := obind_some h
                have wh277 : callIso pr (X pr) 7 [.agg [.int .i64 a0.lot, .int .i64 a0.sample, .int .i64 a0.accept], sl 1 vbool v274] = some (.tup [.bool v276.1, .int .i64 v276.2.1, .int .i64 v276.2.2], false) := W7 h277
                rcases cond_split h with ⟨h278, h⟩ | ⟨h278, h⟩
                · rcases cond_split h with ⟨h279, h⟩ | ⟨h279, h⟩
                  · rcases cond_split h with ⟨h280, h⟩ | ⟨h280, h⟩
                    · obtain ⟨v281, h282, h⟩ := obind_some h
                      obtain ⟨v283, h284, h⟩ := obind_some h
                      obtain ⟨v285, h286, h⟩ := obind_some h
                      have wh286 : callIso pr (X pr) 7 [.agg [.int .i64 a0.lot, .int .i64 a0.sample, .int .i64 a0.accept], sl 1 vbool v283] = some (.tup [.bool v285.1, .int .i64 v285.2.1, .int .i64 v285.2.2], false) := W7 h286
                      rcases cond_split h with ⟨h287, h⟩ | ⟨h287, h⟩
                      · cases h
                        exact stepO_in (st' := ⟨[(2, .ptr 0 0, false), (5, .int .i64 v8, false), (6, .ptr 1 0, false), (8, .int .i64 (wrapF .i64 (s0.1 + 1)), false), (9, .int .i64 (wrapF .i64 (s0.2.1 + 1)), false), (78, .int .i64 v17, false), (79, .int .i64 (wrapF .i64 (s0.2.2 + 1)), false)], [.cells [(.int .i64 a0.lot, false), (.int .i64 a0.sample, false), (.int .i64 a0.accept, false)], .cells [(.int .i64 v10.1.num, false), (.int .i64 v10.1.den, false)]]⟩) (by simp only [go_sem, seval, c3_0, St3_0, h220, wh261, h262, h263, app_lit_O h265, wh267, h268, h269, h270, h271, slCut_h h273, app_lit_O h275, wh277, h278, h279, h280, slCut_h h282, app_lit_O h284, wh286, h287] <;> rfl) (gc_same (Nat.le_refl _))
                      · cases h
                        exact stepO_out (by simp only [go_sem, seval, c3_0, St3_0, h220, wh261, h262, h263, app_lit_O h265, wh267, h268, h269, h270, h271, slCut_h h273, app_lit_O h275, wh277, h278, h279, h280, slCut_h h282, app_lit_O h284, wh286, h287, Ex3_0] <;> rfl)
                    · cases h
                      exact stepO_out (by simp only [go_sem, seval, c3_0, St3_0, h220, wh261, h262, h263, app_lit_O h265, wh267, h268, h269, h270, h271, slCut_h h273, app_lit_O h275, wh277, h278, h279, h280, Ex3_0] <;> rfl)
                  · cases h
                    exact stepO_out (by simp only [go_sem, seval, c3_0, St3_0, h220, wh261, h262, h263, app_lit_O h265, wh267, h268, h269, h270, h271, slCut_h h273, app_lit_O h275, wh277, h278, h279, Ex3_0] <;> rfl)
                · cases h
                  exact stepO_out (by simp only [go_sem, seval, c3_0, St3_0, h220, wh261, h262, h263, app_lit_O h265, wh267, h268, h269, h270, h271, slCut_h h273, app_lit_O h275, wh277, h278, Ex3_0] <;> rfl)
          · cases h
            exact stepO_out (by simp only [go_sem, seval, c3_0, St3_0, h220, wh261, h262, h263, app_lit_O h265, wh267, h268, h269, Ex3_0] <;> rfl)
        · cases h
          exact stepO_out (by simp only [go_sem, seval, c3_0, St3_0, h220, wh261, h262, h263, app_lit_O h265, wh267, h268, Ex3_0] <;> rfl)
      · obtain ⟨v288, h289, h⟩ := obind_some h
        obtain ⟨v290, h291, h⟩ := obind_some h
        have wh291 : callIso pr (X pr) 7 [.agg [.int .i64 a0.lot, .int .i64 a0.sample, .int .i64 a0.accept], sl 1 vbool v288] = some (.tup [.bool v290.1, .int .i64 v290.2.1, .int .i64 v290.2.2], false) := W7 h291
        rcases cond_split h with ⟨h292, h⟩ | ⟨h292, h⟩
        · rcases cond_split h with ⟨h293, h⟩ | ⟨h293, h⟩
          · rcases cond_split h with ⟨h294, h⟩ | ⟨h294, h⟩
            · cases h
              exact stepO_out (by simp only [go_sem, seval, c3_0, St3_0, h220, wh261, h262, h263, app_lit_O h289, wh291, h292, h293, h294, Ex3_0] <;> rfl)
            · rcases cond_split h with ⟨h295, h⟩ | ⟨h295, h⟩
              · cases h
                exact stepO_out (by simp only [go_sem, seval, c3_0, St3_0, h220, wh261, h262, h263, app_lit_O h289, wh291, h292, h293, h294, h295, Ex3_0] <;> rfl)
              · obtain ⟨v296, h297, h⟩ := obind_some h
                obtain ⟨v298, h299, h⟩ := obind_some h
                obtain ⟨v300, h301, h⟩ := obind_some h
                have wh301 : callIso pr (X pr) 7 [.agg [.int .i64 a0.lot, .int .i64 a0.sample, .int .i64 a0.accept], sl 1 vbool v298] = some (.tup [.bool v300.1, .int .i64 v300.2.1, .int .i64 v300.2.2], false) := W7 h301
                rcases cond_split h with ⟨h302, h⟩ | ⟨h302, h⟩
                · rcases cond_split h with ⟨h303, h⟩ | ⟨h303, h⟩
                  · rcases cond_split h with ⟨h304, h⟩ | ⟨h304, h⟩
                    · obtain ⟨v305, h306, h⟩ := obind_some h
                      obtain ⟨v307, h308, h⟩ := obind_some h
                      obtain ⟨v309, h310, h⟩ := obind_some h
                      have wh310 : callIso pr (X pr) 7 [.agg [.int .i64 a0.lot, .int .i64 a0.sample, .int .i64 a0.accept], sl 1 vbool v307] = some (.tup [.bool v309.1, .int .i64 v309.2.1, .int .i64 v309.2.2], false) := W7 h310
                      rcases cond_split h with ⟨h311, h⟩ | ⟨h311, h⟩
                      · cases h
                        exact stepO_in (st' := ⟨[(2, .ptr 0 0, false), (5, .int .i64 v8, false), (6, .ptr 1 0, false), (8, .int .i64 (wrapF .i64 (s0.1 + 1)), false), (9, .int .i64 s0.2.1, false), (78, .int .i64 v17, false), (79, .int .i64 (wrapF .i64 (s0.2.2 + 1)), false)], [.cells [(.int .i64 a0.lot, false), (.int .i64 a0.sample, false), (.int .i64 a0.accept, false)], .cells [(.int .i64 v10.1.num, false), (.int .i64 v10.1.den, false)]]⟩) (by simp only [go_sem, seval, c3_0, St3_0, h220, wh261, h262, h263, app_lit_O h289, wh291, h292, h293, h294, h295, slCut_h h297, app_lit_O h299, wh301, h302, h303, h304, slCut_h h306, app_lit_O h308, wh310, h311] <;> rfl) (gc_same (Nat.le_refl _))
                      · cases h
                        exact stepO_out (by simp only [go_sem, seval, c3_0, St3_0, h220, wh261, h262, h263, app_lit_O h289, wh291, h292, h293, h294, h295, slCut_h h297, app_lit_O h299, wh301, h302, h303, h304, slCut_h h306, app_lit_O h308, wh310, h311, Ex3_0] <;> rfl)
                    · cases h
                      exact stepO_out (by simp only [go_sem, seval, c3_0, St3_0, h220, wh261, h262, h263, app_lit_O h289, wh291, h292, h293, h294, h295, slCut_h h297, app_lit_O h299, wh301, h302, h303, h304, Ex3_0] <;> rfl)
                  · cases h
                    exact stepO_out (by simp only [go_sem, seval, c3_0, St3_0, h220, wh261, h262, h263, app_lit_O h289, wh291, h292, h293, h294, h295, slCut_h h297, app_lit_O h299, wh301, h302, h303, Ex3_0] <;> rfl)
                · cases h
                  exact stepO_out (by simp only [go_sem, seval, c3_0, St3_0, h220, wh261, h262, h263, app_lit_O h289, wh291, h292, h293, h294, h295, slCut_h h297, app_lit_O h299, wh301, h302, Ex3_0] <;> rfl)
          · cases h
            exact stepO_out (by simp only [go_sem, seval, c3_0, St3_0, h220, wh261, h262, h263, app_lit_O h289, wh291, h292, h293, Ex3_0] <;> rfl)
        · cases h
          exact stepO_out (by simp only [go_sem, seval, c3_0, St3_0, h220, wh261, h262, h263, app_lit_O h289, wh291, h292, Ex3_0] <;> rfl)
    · cases h
      exact stepO_in (st' := ⟨[(2, .ptr 0 0, false), (5, .int .i64 v8, false), (6, .ptr 1 0, false), (8, .int .i64 s0.1, false), (9, .int .i64 s0.2.1, false), (78, .int .i64 v17, false), (79, .int .i64 (wrapF .i64 (s0.2.2 + 1)), false)], [.cells [(.int .i64 a0.lot, false), (.int .i64 a0.sample, false), (.int .i64 a0.accept, false)], .cells [(.int .i64 v10.1.num, false), (.int .i64 v10.1.den, false)]]⟩) (by simp only [go_sem, seval, c3_0, St3_0, h220, wh261, h262] <;> rfl) (gc_same (Nat.le_refl _))
  · cases h
    exact stepO_out (by simp only [go_sem, seval, c3_0, St3_0, h220, Ex3_0] <;> rfl)
theorem l3_0 (a0 : GPlan) (v8 : Int) (v10 : GRat × Int) (v17 : Int) {s0 : Int × Int × Int} {d} (h : itO (s3_0 a0 v8 v10 v17) s0 = some d) : X pr (.loop c3_0) (St3_0 a0 v8 v10 v17 s0) = some (Ex3_0 a0 v8 v10 v17 d) := X_itO (b3_0 a0 v8 v10 v17) (fun d => by rcases d with d|d <;> (intro hh; cases hh)) h
noncomputable def f3 (a0 : GPlan) (a1 : Int) : Option Bool :=
  obind (E4) fun v1 =>
  cond v1
   (obind (f5 a0) fun v4 =>
    cond (decide (v4 = 0))
     (cond (decide (8 < a0.lot))
       (some v1)
       (obind (remO (wrapF .i64 a1) (wrapF .i64 (a0.lot + 1))) fun v8 =>
        obind (f6 a0 v8) fun v10 =>
        cond (decide (v10.2 = 0))
         (cond (decide (v10.1.den < 1))
           (some false)
           (cond (decide (v10.1.num < 0))
             (some false)
             (cond (decide (v10.1.den < v10.1.num))
               (some false)
               (cond (decide (1000 < v10.1.den))
                 (some false)
                 (obind (shlO .i64 1 a0.lot) fun v17 =>
                  obind (itO (s3_0 a0 v8 v10 v17) (0, 0, 0)) fun d312 => match d312 with
                    | .inl d314 =>
                      some false
                    | .inr d315 =>
                      cond (decide ((wrapF .i64 (d315.2.1 * v10.1.den)) = (wrapF .i64 (v10.1.num * d315.1))))
                       (cond (decide (v8 < a0.lot))
                         (obind (f6 a0 (wrapF .i64 (v8 + 1))) fun v318 =>
                          cond (decide (v318.2 = 0))
                           (cond (decide (v318.1.den < 1))
                             (some false)
                             (cond (decide (1000 < v318.1.den))
                               (some false)
                               (cond (decide (v318.1.num < 0))
                                 (some false)
                                 (cond (decide ((wrapF .i64 (v10.1.num * v318.1.den)) < (wrapF .i64 (v318.1.num * v10.1.den))))
                                   (some false)
                                   (cond (decide ((wrapF .i64 (a0.accept + 1)) < a0.sample))
                                     (obind (f6 (⟨a0.lot, a0.sample, wrapF .i64 (a0.accept + 1)⟩) v8) fun v326 =>
                                      cond (decide (v326.2 = 0))
                                       (cond (decide (v326.1.den < 1))
                                         (some false)
                                         (cond (decide (1000 < v326.1.den))
                                           (some false)
                                           (cond (decide (v326.1.num < 0))
                                             (some false)
                                             (cond (decide (v326.1.den < v326.1.num))
                                               (some false)
                                               (cond (decide ((wrapF .i64 (v326.1.num * v10.1.den)) < (wrapF .i64 (v10.1.num * v326.1.den))))
                                                 (some false)
                                                 (some true))))))
                                       (some false))
                                     (some true))))))
                           (some false))
                         (cond (decide ((wrapF .i64 (a0.accept + 1)) < a0.sample))
                           (obind (f6 (⟨a0.lot, a0.sample, wrapF .i64 (a0.accept + 1)⟩) v8) fun v335 =>
                            cond (decide (v335.2 = 0))
                             (cond (decide (v335.1.den < 1))
                               (some false)
                               (cond (decide (1000 < v335.1.den))
                                 (some false)
                                 (cond (decide (v335.1.num < 0))
                                   (some false)
                                   (cond (decide (v335.1.den < v335.1.num))
                                     (some false)
                                     (cond (decide ((wrapF .i64 (v335.1.num * v10.1.den)) < (wrapF .i64 (v10.1.num * v335.1.den))))
                                       (some false)
                                       (some true))))))
                             (some false))
                           (some true)))
                       (some false))))))
         (some false)))
     (some v1))
   (some v1)
theorem W3 {a0 : GPlan} {a1 : Int} {r} (h : f3 a0 a1 = some r) : callIso pr (X pr) 3 [.agg [.int .i64 a0.lot, .int .i64 a0.sample, .int .i64 a0.accept], .int .u8 a1] = some (.bool r, false) := by
  unfold f3 at h
  obtain ⟨v1, h2, h⟩ := obind_some h
  have wh2 : callIso pr (X pr) 4 [] = some (.bool v1, false) := WE4 h2
  rcases cond_split h with ⟨h3, h⟩ | ⟨h3, h⟩
  · obtain ⟨v4, h5, h⟩ := obind_some h
    have wh5 : callIso pr (X pr) 5 [.agg [.int .i64 a0.lot, .int .i64 a0.sample, .int .i64 a0.accept]] = some (.int .i64 v4, false) := W5 h5
    rcases cond_split h with ⟨h6, h⟩ | ⟨h6, h⟩
    · rcases cond_split h with ⟨h7, h⟩ | ⟨h7, h⟩
      · have hr : v1 = r := Option.some.inj h
        subst hr
        have this : ∃ hh, callFn pr (X pr) 3 [.agg [.int .i64 a0.lot, .int .i64 a0.sample, .int .i64 a0.accept], .int .u8 a1] [] = some (.bool v1, false, hh) := by
          rw [callFn_at (show pr.fns 3 = some c3 from rfl) (by simp)]
          simp only [go_sem, seval, c3, wh2, h3, wh5, h6, h7]
          exact ⟨_, rfl⟩
        obtain ⟨hh, this⟩ := this
        exact callIso_of rfl this (by first | rfl | simp only [go_sem, seval]) (by first | rfl | simp only [go_sem, seval])
      · obtain ⟨v8, h9, h⟩ := obind_some h
        obtain ⟨v10, h11, h⟩ := obind_some h
        have wh11 : callIso pr (X pr) 6 [.agg [.int .i64 a0.lot, .int .i64 a0.sample, .int .i64 a0.accept], .int .i64 v8] = some (.tup [.agg [.int .i64 v10.1.num, .int .i64 v10.1.den], .int .i64 v10.2], false) := W6 h11
        rcases cond_split h with ⟨h12, h⟩ | ⟨h12, h⟩
        · rcases cond_split h with ⟨h13, h⟩ | ⟨h13, h⟩
          · have hr : false = r := Option.some.inj h
            subst hr
            have this : ∃ hh, callFn pr (X pr) 3 [.agg [.int .i64 a0.lot, .int .i64 a0.sample, .int .i64 a0.accept], .int .u8 a1] [] = some (.bool false, false, hh) := by
              rw [callFn_at (show pr.fns 3 = some c3 from rfl) (by simp)]
              simp only [go_sem, seval, c3, wh2, h3, wh5, h6, h7, b_rem_O h9, wh11, h12, h13]
              exact ⟨_, rfl⟩
            obtain ⟨hh, this⟩ := this
            exact callIso_of rfl this (by first | rfl | simp only [go_sem, seval]) (by first | rfl | simp only [go_sem, seval])
          · rcases cond_split h with ⟨h14, h⟩ | ⟨h14, h⟩
            · have hr : false = r := Option.some.inj h
              subst hr
              have this : ∃ hh, callFn pr (X pr) 3 [.agg [.int .i64 a0.lot, .int .i64 a0.sample, .int .i64 a0.accept], .int .u8 a1] [] = some (.bool false, false, hh) := by
                rw [callFn_at (show pr.fns 3 = some c3 from rfl) (by simp)]
                simp only [go_sem, seval, c3, wh2, h3, wh5, h6, h7, b_rem_O h9, wh11, h12, h13, h14]
                exact ⟨_, rfl⟩
              obtain ⟨hh, this⟩ := this
              exact callIso_of rfl this (by first | rfl | simp only [go_sem, seval]) (by first | rfl | simp only [go_sem, seval])
            · rcases cond_split h with ⟨h15, h⟩ | ⟨h15, h⟩
              · have hr : false = r := Option.some.inj h
                subst hr
                have this : ∃ hh, callFn pr (X pr) 3 [.agg [.int .i64 a0.lot, .int .i64 a0.sample, .int .i64 a0.accept], .int .u8 a1] [] = some (.bool false, false, hh) := by
                  rw [callFn_at (show pr.fns 3 = some c3 from rfl) (by simp)]
                  simp only [go_sem, seval, c3, wh2, h3, wh5, h6, h7, b_rem_O h9, wh11, h12, h13, h14, h15]
                  exact ⟨_, rfl⟩
                obtain ⟨hh, this⟩ := this
                exact callIso_of rfl this (by first | rfl | simp only [go_sem, seval]) (by first | rfl | simp only [go_sem, seval])
              · rcases cond_split h with ⟨h16, h⟩ | ⟨h16, h⟩
                · have hr : false = r := Option.some.inj h
                  subst hr
                  have this : ∃ hh, callFn pr (X pr) 3 [.agg [.int .i64 a0.lot, .int .i64 a0.sample, .int .i64 a0.accept], .int .u8 a1] [] = some (.bool false, false, hh) := by
                    rw [callFn_at (show pr.fns 3 = some c3 from rfl) (by simp)]
                    simp only [go_sem, seval, c3, wh2, h3, wh5, h6, h7, b_rem_O h9, wh11, h12, h13, h14, h15, h16]
                    exact ⟨_, rfl⟩
                  obtain ⟨hh, this⟩ := this
                  exact callIso_of rfl this (by first | rfl | simp only [go_sem, seval]) (by first | rfl | simp only [go_sem, seval])
                · obtain ⟨v17, h18, h⟩ := obind_some h
                  obtain ⟨d312, h313, h⟩ := obind_some h
                  rcases d312 with d314 | d315
                  · have wh313 : X pr (.loop c3_0) ⟨[(2, .ptr 0 0, false), (5, .int .i64 v8, false), (6, .ptr 1 0, false), (8, .int .i64 0, false), (9, .int .i64 0, false), (78, .int .i64 v17, false), (79, .int .i64 0, false)], [.cells [(.int .i64 a0.lot, false), (.int .i64 a0.sample, false), (.int .i64 a0.accept, false)], .cells [(.int .i64 v10.1.num, false), (.int .i64 v10.1.den, false)]]⟩ = some (.ret, ⟨[(4, .bool false, false)], [.cells [(.int .i64 a0.lot, false), (.int .i64 a0.sample, false), (.int .i64 a0.accept, false)], .cells [(.int .i64 v10.1.num, false), (.int .i64 v10.1.den, false)]]⟩) := l3_0 a0 v8 v10 v17 h313
                    have hr : false = r := Option.some.inj h
                    subst hr
                    have this : ∃ hh, callFn pr (X pr) 3 [.agg [.int .i64 a0.lot, .int .i64 a0.sample, .int .i64 a0.accept], .int .u8 a1] [] = some (.bool false, false, hh) := by
                      rw [callFn_at (show pr.fns 3 = some c3 from rfl) (by simp)]
                      simp only [go_sem, seval, c3, wh2, h3, wh5, h6, h7, b_rem_O h9, wh11, h12, h13, h14, h15, h16, b_shl_O h18, wh313]
                      exact ⟨_, rfl⟩
                    obtain ⟨hh, this⟩ := this
                    exact callIso_of rfl this (by first | rfl | simp only [go_sem, seval]) (by first | rfl | simp only [go_sem, seval])
                  · have wh313 : X pr (.loop c3_0) ⟨[(2, .ptr 0 0, false), (5, .int .i64 v8, false), (6, .ptr 1 0, false), (8, .int .i64 0, false), (9, .int .i64 0, false), (78, .int .i64 v17, false), (79, .int .i64 0, false)], [.cells [(.int .i64 a0.lot, false), (.int .i64 a0.sample, false), (.int .i64 a0.accept, false)], .cells [(.int .i64 v10.1.num, false), (.int .i64 v10.1.den, false)]]⟩ = some (.exit 0, ⟨[(2, .ptr 0 0, false), (5, .int .i64 v8, false), (6, .ptr 1 0, false), (8, .int .i64 d315.1, false), (9, .int .i64 d315.2.1, false), (78, .int .i64 v17, false), (79, .int .i64 d315.2.2, false), (80, .bool false, false)], [.cells [(.int .i64 a0.lot, false), (.int .i64 a0.sample, false), (.int .i64 a0.accept, false)], .cells [(.int .i64 v10.1.num, false), (.int .i64 v10.1.den, false)]]⟩) := l3_0 a0 v8 v10 v17 h313
                    rcases cond_split h with ⟨h316, h⟩ | ⟨h316, h⟩
                    · rcases cond_split h with ⟨h317, h⟩ | ⟨h317, h⟩
                      · obtain ⟨v318, h319, h⟩ := obind_some h
                        have wh319 : callIso pr (X pr) 6 [.agg [.int .i64 a0.lot, .int .i64 a0.sample, .int .i64 a0.accept], .int .i64 (wrapF .i64 (v8 + 1))] = some (.tup [.agg [.int .i64 v318.1.num, .int .i64 v318.1.den], .int .i64 v318.2], false) := W6 h319
                        rcases cond_split h with ⟨h320, h⟩ | ⟨h320, h⟩
                        · rcases cond_split h with ⟨h321, h⟩ | ⟨h321, h⟩
                          · have hr : false = r := Option.some.inj h
                            subst hr
                            have this : ∃ hh, callFn pr (X pr) 3 [.agg [.int .i64 a0.lot, .int .i64 a0.sample, .int .i64 a0.accept], .int .u8 a1] [] = some (.bool false, false, hh) := by
                              rw [callFn_at (show pr.fns 3 = some c3 from rfl) (by simp)]
                              simp only [go_sem, seval, c3, wh2, h3, wh5, h6, h7, b_rem_O h9, wh11, h12, h13, h14, h15, h16, b_shl_O h18, wh313, h316, h317, wh319, h320, h321]
                              exact ⟨_, rfl⟩
                            obtain ⟨hh, this⟩ := this
                            exact callIso_of rfl this (by first | rfl | simp only [go_sem, seval]) (by first | rfl | simp only [go_sem, seval])
                          · rcases cond_split h with ⟨h322, h⟩ | ⟨h322, h⟩
                            · have hr : false = r := Option.some.inj h
                              subst hr
                              have this : ∃ hh, callFn pr (X pr) 3 [.agg [.int .i64 a0.lot, .int .i64 a0.sample, .int .i64 a0.accept], .int .u8 a1] [] = some (.bool false, false, hh) := by
                                rw [callFn_at (show pr.fns 3 = some c3 from rfl) (by simp)]
                                simp only [go_sem, seval, c3, wh2, h3, wh5, h6, h7, b_rem_O h9, wh11, h12, h13, h14, h15, h16, b_shl_O h18, wh313, h316, h317, wh319, h320, h321, h322]
                                exact ⟨_, rfl⟩
                              obtain ⟨hh, this⟩ := this
                              exact callIso_of rfl this (by first | rfl | simp only [go_sem, seval]) (by first | rfl | simp only [go_sem, seval])
                            · rcases cond_split h with ⟨h323, h⟩ | ⟨h323, h⟩
                              · have hr : false = r := Option.some.inj h
                                subst hr
                                have this : ∃ hh, callFn pr (X pr) 3 [.agg [.int .i64 a0.lot, .int .i64 a0.sample, .int .i64 a0.accept], .int .u8 a1] [] = some (.bool false, false, hh) := by
                                  rw [callFn_at (show pr.fns 3 = some c3 from rfl) (by simp)]
                                  simp only [go_sem, seval, c3, wh2, h3, wh5, h6, h7, b_rem_O h9, wh11, h12, h13, h14, h15, h16, b_shl_O h18, wh313, h316, h317, wh319, h320, h321, h322, h323]
                                  exact ⟨_, rfl⟩
                                obtain ⟨hh, this⟩ := this
                                exact callIso_of rfl this (by first | rfl | simp only [go_sem, seval]) (by first | rfl | simp only [go_sem, seval])
                              · rcases cond_split h with ⟨h324, h⟩ | ⟨h324, h⟩
                                · have hr : false = r := Option.some.inj h
                                  subst hr
                                  have this : ∃ hh, callFn pr (X pr) 3 [.agg [.int .i64 a0.lot, .int .i64 a0.sample, .int .i64 a0.accept], .int .u8 a1] [] = some (.bool false, false, hh) := by
                                    rw [callFn_at (show pr.fns 3 = some c3 from rfl) (by simp)]
                                    simp only [go_sem, seval, c3, wh2, h3, wh5, h6, h7, b_rem_O h9, wh11, h12, h13, h14, h15, h16, b_shl_O h18, wh313, h316, h317, wh319, h320, h321, h322, h323, h324]
                                    exact ⟨_, rfl⟩
                                  obtain ⟨hh, this⟩ := this
                                  exact callIso_of rfl this (by first | rfl | simp only [go_sem, seval]) (by first | rfl | simp only [go_sem, seval])
                                · rcases cond_split h with ⟨h325, h⟩ | ⟨h325, h⟩
                                  · obtain ⟨v326, h327, h⟩ := obind_some h
                                    have wh327 : callIso pr (X pr) 6 [.agg [.int .i64 a0.lot, .int .i64 a0.sample, .int .i64 (wrapF .i64 (a0.accept + 1))], .int .i64 v8] = some (.tup [.agg [.int .i64 v326.1.num, .int .i64 v326.1.den], .int .i64 v326.2], false) := W6 h327
                                    rcases cond_split h with ⟨h328, h⟩ | ⟨h328, h⟩
                                    · rcases cond_split h with ⟨h329, h⟩ | ⟨h329, h⟩
                                      · have hr : false = r := Option.some.inj h
                                        subst hr
                                        have this : ∃ hh, callFn pr (X pr) 3 [.agg [.int .i64 a0.lot, .int .i64 a0.sample, .int .i64 a0.accept], .int .u8 a1] [] = some (.bool false, false, hh) := by
                                          rw [callFn_at (show pr.fns 3 = some c3 from rfl) (by simp)]
                                          simp only [go_sem, seval, c3, wh2, h3, wh5, h6, h7, b_rem_O h9, wh11, h12, h13, h14, h15, h16, b_shl_O h18, wh313, h316, h317, wh319, h320, h321, h322, h323, h324, h325, wh327, h328, h329]
                                          exact ⟨_, rfl⟩
                                        obtain ⟨hh, this⟩ := this
                                        exact callIso_of rfl this (by first | rfl | simp only [go_sem, seval]) (by first | rfl | simp only [go_sem, seval])
                                      · rcases cond_split h with ⟨h330, h⟩ | ⟨h330, h⟩
                                        · have hr : false = r := Option.some.inj h
                                          subst hr
                                          have this : ∃ hh, callFn pr (X pr) 3 [.agg [.int .i64 a0.lot, .int .i64 a0.sample, .int .i64 a0.accept], .int .u8 a1] [] = some (.bool false, false, hh) := by
                                            rw [callFn_at (show pr.fns 3 = some c3 from rfl) (by simp)]
                                            simp only [go_sem, seval, c3, wh2, h3, wh5, h6, h7, b_rem_O h9, wh11, h12, h13, h14, h15, h16, b_shl_O h18, wh313, h316, h317, wh319, h320, h321, h322, h323, h324, h325, wh327, h328, h329, h330]
                                            exact ⟨_, rfl⟩
                                          obtain ⟨hh, this⟩ := this
                                          exact callIso_of rfl this (by first | rfl | simp only [go_sem, seval]) (by first | rfl | simp only [go_sem, seval])
                                        · rcases cond_split h with ⟨h331, h⟩ | ⟨h331, h⟩
                                          · have hr : false = r := Option.some.inj h
                                            subst hr
                                            have this : ∃ hh, callFn pr (X pr) 3 [.agg [.int .i64 a0.lot, .int .i64 a0.sample, .int .i64 a0.accept], .int .u8 a1] [] = some (.bool false, false, hh) := by
                                              rw [callFn_at (show pr.fns 3 = some c3 from rfl) (by simp)]
                                              simp only [go_sem, seval, c3, wh2, h3, wh5, h6, h7, b_rem_O h9, wh11, h12, h13, h14, h15, h16, b_shl_O h18, wh313, h316, h317, wh319, h320, h321, h322, h323, h324, h325, wh327, h328, h329, h330, h331]
                                              exact ⟨_, rfl⟩
                                            obtain ⟨hh, this⟩ := this
                                            exact callIso_of rfl this (by first | rfl | simp only [go_sem, seval]) (by first | rfl | simp only [go_sem, seval])
                                          · rcases cond_split h with ⟨h332, h⟩ | ⟨h332, h⟩
                                            · have hr : false = r := Option.some.inj h
                                              subst hr
                                              have this : ∃ hh, callFn pr (X pr) 3 [.agg [.int .i64 a0.lot, .int .i64 a0.sample, .int .i64 a0.accept], .int .u8 a1] [] = some (.bool false, false, hh) := by
                                                rw [callFn_at (show pr.fns 3 = some c3 from rfl) (by simp)]
                                                simp only [go_sem, seval, c3, wh2, h3, wh5, h6, h7, b_rem_O h9, wh11, h12, h13, h14, h15, h16, b_shl_O h18, wh313, h316, h317, wh319, h320, h321, h322, h323, h324, h325, wh327, h328, h329, h330, h331, h332]
                                                exact ⟨_, rfl⟩
                                              obtain ⟨hh, this⟩ := this
                                              exact callIso_of rfl this (by first | rfl | simp only [go_sem, seval]) (by first | rfl | simp only [go_sem, seval])
                                            · rcases cond_split h with ⟨h333, h⟩ | ⟨h333, h⟩
                                              · have hr : false = r := Option.some.inj h
                                                subst hr
                                                have this : ∃ hh, callFn pr (X pr) 3 [.agg [.int .i64 a0.lot, .int .i64 a0.sample, .int .i64 a0.accept], .int .u8 a1] [] = some (.bool false, false, hh) := by
                                                  rw [callFn_at (show pr.fns 3 = some c3 from rfl) (by simp)]
                                                  simp only [go_sem, seval, c3, wh2, h3, wh5, h6, h7, b_rem_O h9, wh11, h12, h13, h14, h15, h16, b_shl_O h18, wh313, h316, h317, wh319, h320, h321, h322, h323, h324, h325, wh327, h328, h329, h330, h331, h332, h333]
                                                  exact ⟨_, rfl⟩
                                                obtain ⟨hh, this⟩ := this
                                                exact callIso_of rfl this (by first | rfl | simp only [go_sem, seval]) (by first | rfl | simp only [go_sem, seval])
                                              · have hr : true = r := Option.some.inj h
                                                subst hr
                                                have this : ∃ hh, callFn pr (X pr) 3 [.agg [.int .i64 a0.lot, .int .i64 a0.sample, .int .i64 a0.accept], .int .u8 a1] [] = some (.bool true, false, hh) := by
                                                  rw [callFn_at (show pr.fns 3 = some c3 from rfl) (by simp)]
                                                  simp only [go_sem, seval, c3, wh2, h3, wh5, h6, h7, b_rem_O h9, wh11, h12, h13, h14, h15, h16, b_shl_O h18, wh313, h316, h317, wh319, h320, h321, h322, h323, h324, h325, wh327, h328, h329, h330, h331, h332, h333]
                                                  exact ⟨_, rfl⟩
                                                obtain ⟨hh, this⟩ := this
                                                exact callIso_of rfl this (by first | rfl | simp only [go_sem, seval]) (by first | rfl | simp only [go_sem, seval])
                                    · have hr : false = r := Option.some.inj h
                                      subst hr
                                      have this : ∃ hh, callFn pr (X pr) 3 [.agg [.int .i64 a0.lot, .int .i64 a0.sample, .int .i64 a0.accept], .int .u8 a1] [] = some (.bool false, false, hh) := by
                                        rw [callFn_at (show pr.fns 3 = some c3 from rfl) (by simp)]
                                        simp only [go_sem, seval, c3, wh2, h3, wh5, h6, h7, b_rem_O h9, wh11, h12, h13, h14, h15, h16, b_shl_O h18, wh313, h316, h317, wh319, h320, h321, h322, h323, h324, h325, wh327, h328]
                                        exact ⟨_, rfl⟩
                                      obtain ⟨hh, this⟩ := this
                                      exact callIso_of rfl this (by first | rfl | simp only [go_sem, seval]) (by first | rfl | simp only [go_sem, seval])
                                  · have hr : true = r := Option.some.inj h
                                    subst hr
                                    have this : ∃ hh, callFn pr (X pr) 3 [.agg [.int .i64 a0.lot, .int .i64 a0.sample, .int .i64 a0.accept], .int .u8 a1] [] = some (.bool true, false, hh) := by
                                      rw [callFn_at (show pr.fns 3 = some c3 from rfl) (by simp)]
                                      simp only [go_sem, seval, c3, wh2, h3, wh5, h6, h7, b_rem_O h9, wh11, h12, h13, h14, h15, h16, b_shl_O h18, wh313, h316, h317, wh319, h320, h321, h322, h323, h324, h325]
                                      exact ⟨_, rfl⟩
                                    obtain ⟨hh, this⟩ := this
                                    exact callIso_of rfl this (by first | rfl | simp only [go_sem, seval]) (by first | rfl | simp only [go_sem, seval])
                        · have hr : false = r := Option.some.inj h
                          subst hr
                          have this : ∃ hh, callFn pr (X pr) 3 [.agg [.int .i64 a0.lot, .int .i64 a0.sample, .int .i64 a0.accept], .int .u8 a1] [] = some (.bool false, false, hh) := by
                            rw [callFn_at (show pr.fns 3 = some c3 from rfl) (by simp)]
                            simp only [go_sem, seval, c3, wh2, h3, wh5, h6, h7, b_rem_O h9, wh11, h12, h13, h14, h15, h16, b_shl_O h18, wh313, h316, h317, wh319, h320]
                            exact ⟨_, rfl⟩
                          obtain ⟨hh, this⟩ := this
                          exact callIso_of rfl this (by first | rfl | simp only [go_sem, seval]) (by first | rfl | simp only [go_sem, seval])
                      · rcases cond_split h with ⟨h334, h⟩ | ⟨h334, h⟩
                        · obtain ⟨v335, h336, h⟩ := obind_some h
                          have wh336 : callIso pr (X pr) 6 [.agg [.int .i64 a0.lot, .int .i64 a0.sample, .int .i64 (wrapF .i64 (a0.accept + 1))], .int .i64 v8] = some (.tup [.agg [.int .i64 v335.1.num, .int .i64 v335.1.den], .int .i64 v335.2], false) := W6 h336
                          rcases cond_split h with ⟨h337, h⟩ | ⟨h337, h⟩
                          · rcases cond_split h with ⟨h338, h⟩ | ⟨h338, h⟩
                            · have hr : false = r := Option.some.inj h
                              subst hr
                              have this : ∃ hh, callFn pr (X pr) 3 [.agg [.int .i64 a0.lot, .int .i64 a0.sample, .int .i64 a0.accept], .int .u8 a1] [] = some (.bool false, false, hh) := by
                                rw [callFn_at (show pr.fns 3 = some c3 from rfl) (by simp)]
                                simp only [go_sem, seval, c3, wh2, h3, wh5, h6, h7, b_rem_O h9, wh11, h12, h13, h14, h15, h16, b_shl_O h18, wh313, h316, h317, h334, wh336, h337, h338]
                                exact ⟨_, rfl⟩
                              obtain ⟨hh, this⟩ := this
                              exact callIso_of rfl this (by first | rfl | simp only [go_sem, seval]) (by first | rfl | simp only [go_sem, seval])
                            · rcases cond_split h with ⟨h339, h⟩ | ⟨h339, h⟩
                              · have hr : false = r := Option.some.inj h
                                subst hr
                                have this : ∃ hh, callFn pr (X pr) 3 [.agg [.int .i64 a0.lot, .int .i64 a0.sample, .int .i64 a0.accept], .int .u8 a1] [] = some (.bool false, false, hh) := by
                                  rw [callFn_at (show pr.fns 3 = some c3 from rfl) (by simp)]
                                  simp only [go_sem, seval, c3, wh2, h3, wh5, h6, h7, b_rem_O h9, wh11, h12, h13, h14, h15, h16, b_shl_O h18, wh313, h316, h317, h334, wh336, h337, h338, h339]
                                  exact ⟨_, rfl⟩
                                obtain ⟨hh, this⟩ := this
                                exact callIso_of rfl this (by first | rfl | simp only [go_sem, seval]) (by first | rfl | simp only [go_sem, seval])
                              · rcases cond_split h with ⟨h340, h⟩ | ⟨h340, h⟩
                                · have hr : false = r := Option.some.inj h
                                  subst hr
                                  have this : ∃ hh, callFn pr (X pr) 3 [.agg [.int .i64 a0.lot, .int .i64 a0.sample, .int .i64 a0.accept], .int .u8 a1] [] = some (.bool false, false, hh) := by
                                    rw [callFn_at (show pr.fns 3 = some c3 from rfl) (by simp)]
                                    simp only [go_sem, seval, c3, wh2, h3, wh5, h6, h7, b_rem_O h9, wh11, h12, h13, h14, h15, h16, b_shl_O h18, wh313, h316, h317, h334, wh336, h337, h338, h339, h340]
                                    exact ⟨_, rfl⟩
                                  obtain ⟨hh, this⟩ := this
                                  exact callIso_of rfl this (by first | rfl | simp only [go_sem, seval]) (by first | rfl | simp only [go_sem, seval])
                                · rcases cond_split h with ⟨h341, h⟩ | ⟨h341, h⟩
                                  · have hr : false = r := Option.some.inj h
                                    subst hr
                                    have this : ∃ hh, callFn pr (X pr) 3 [.agg [.int .i64 a0.lot, .int .i64 a0.sample, .int .i64 a0.accept], .int .u8 a1] [] = some (.bool false, false, hh) := by
                                      rw [callFn_at (show pr.fns 3 = some c3 from rfl) (by simp)]
                                      simp only [go_sem, seval, c3, wh2, h3, wh5, h6, h7, b_rem_O h9, wh11, h12, h13, h14, h15, h16, b_shl_O h18, wh313, h316, h317, h334, wh336, h337, h338, h339, h340, h341]
                                      exact ⟨_, rfl⟩
                                    obtain ⟨hh, this⟩ := this
                                    exact callIso_of rfl this (by first | rfl | simp only [go_sem, seval]) (by first | rfl | simp only [go_sem, seval])
                                  · rcases cond_split h with ⟨h342, h⟩ | ⟨h342, h⟩
                                    · have hr : false = r := Option.some.inj h
                                      subst hr
                                      have this : ∃ hh, callFn pr (X pr) 3 [.agg [.int .i64 a0.lot, .int .i64 a0.sample, .int .i64 a0.accept], .int .u8 a1] [] = some (.bool false, false, hh) := by
                                        rw [callFn_at (show pr.fns 3 = some c3 from rfl) (by simp)]
                                        simp only [go_sem, seval, c3, wh2, h3, wh5, h6, h7, b_rem_O h9, wh11, h12, h13, h14, h15, h16, b_shl_O h18, wh313, h316, h317, h334, wh336, h337, h338, h339, h340, h341, h342]
                                        exact ⟨_, rfl⟩
                                      obtain ⟨hh, this⟩ := this
                                      exact callIso_of rfl this (by first | rfl | simp only [go_sem, seval]) (by first | rfl | simp only [go_sem, seval])
                                    · have hr : true = r := Option.some.inj h
                                      subst hr
                                      have this : ∃ hh, callFn pr (X pr) 3 [.agg [.int .i64 a0.lot, .int .i64 a0.sample, .int .i64 a0.accept], .int .u8 a1] [] = some (.bool true, false, hh) := by
                                        rw [callFn_at (show pr.fns 3 = some c3 from rfl) (by simp)]
                                        simp only [go_sem, seval, c3, wh2, h3, wh5, h6, h7, b_rem_O h9, wh11, h12, h13, h14, h15, h16, b_shl_O h18, wh313, h316, h317, h334, wh336, h337, h338, h339, h340, h341, h342]
                                        exact ⟨_, rfl⟩
                                      obtain ⟨hh, this⟩ := this
                                      exact callIso_of rfl this (by first | rfl | simp only [go_sem, seval]) (by first | rfl | simp only [go_sem, seval])
                          · have hr : false = r := Option.some.inj h
                            subst hr
                            have this : ∃ hh, callFn pr (X pr) 3 [.agg [.int .i64 a0.lot, .int .i64 a0.sample, .int .i64 a0.accept], .int .u8 a1] [] = some (.bool false, false, hh) := by
                              rw [callFn_at (show pr.fns 3 = some c3 from rfl) (by simp)]
                              simp only [go_sem, seval, c3, wh2, h3, wh5, h6, h7, b_rem_O h9, wh11, h12, h13, h14, h15, h16, b_shl_O h18, wh313, h316, h317, h334, wh336, h337]
                              exact ⟨_, rfl⟩
                            obtain ⟨hh, this⟩ := this
                            exact callIso_of rfl this (by first | rfl | simp only [go_sem, seval]) (by first | rfl | simp only [go_sem, seval])
                        · have hr : true = r := Option.some.inj h
                          subst hr
                          have this : ∃ hh, callFn pr (X pr) 3 [.agg [.int .i64 a0.lot, .int .i64 a0.sample, .int .i64 a0.accept], .int .u8 a1] [] = some (.bool true, false, hh) := by
                            rw [callFn_at (show pr.fns 3 = some c3 from rfl) (by simp)]
                            simp only [go_sem, seval, c3, wh2, h3, wh5, h6, h7, b_rem_O h9, wh11, h12, h13, h14, h15, h16, b_shl_O h18, wh313, h316, h317, h334]
                            exact ⟨_, rfl⟩
                          obtain ⟨hh, this⟩ := this
                          exact callIso_of rfl this (by first | rfl | simp only [go_sem, seval]) (by first | rfl | simp only [go_sem, seval])
                    · have hr : false = r := Option.some.inj h
                      subst hr
                      have this : ∃ hh, callFn pr (X pr) 3 [.agg [.int .i64 a0.lot, .int .i64 a0.sample, .int .i64 a0.accept], .int .u8 a1] [] = some (.bool false, false, hh) := by
                        rw [callFn_at (show pr.fns 3 = some c3 from rfl) (by simp)]
                        simp only [go_sem, seval, c3, wh2, h3, wh5, h6, h7, b_rem_O h9, wh11, h12, h13, h14, h15, h16, b_shl_O h18, wh313, h316]
                        exact ⟨_, rfl⟩
                      obtain ⟨hh, this⟩ := this
                      exact callIso_of rfl this (by first | rfl | simp only [go_sem, seval]) (by first | rfl | simp only [go_sem, seval])
        · have hr : false = r := Option.some.inj h
          subst hr
          have this : ∃ hh, callFn pr (X pr) 3 [.agg [.int .i64 a0.lot, .int .i64 a0.sample, .int .i64 a0.accept], .int .u8 a1] [] = some (.bool false, false, hh) := by
            rw [callFn_at (show pr.fns 3 = some c3 from rfl) (by simp)]
            simp only [go_sem, seval, c3, wh2, h3, wh5, h6, h7, b_rem_O h9, wh11, h12]
            exact ⟨_, rfl⟩
          obtain ⟨hh, this⟩ := this
          exact callIso_of rfl this (by first | rfl | simp only [go_sem, seval]) (by first | rfl | simp only [go_sem, seval])
    · have hr : v1 = r := Option.some.inj h
      subst hr
      have this : ∃ hh, callFn pr (X pr) 3 [.agg [.int .i64 a0.lot, .int .i64 a0.sample, .int .i64 a0.accept], .int .u8 a1] [] = some (.bool v1, false, hh) := by
        rw [callFn_at (show pr.fns 3 = some c3 from rfl) (by simp)]
        simp only [go_sem, seval, c3, wh2, h3, wh5, h6]
        exact ⟨_, rfl⟩
      obtain ⟨hh, this⟩ := this
      exact callIso_of rfl this (by first | rfl | simp only [go_sem, seval]) (by first | rfl | simp only [go_sem, seval])
  · have hr : v1 = r := Option.some.inj h
    subst hr
    have this : ∃ hh, callFn pr (X pr) 3 [.agg [.int .i64 a0.lot, .int .i64 a0.sample, .int .i64 a0.accept], .int .u8 a1] [] = some (.bool v1, false, hh) := by
      rw [callFn_at (show pr.fns 3 = some c3 from rfl) (by simp)]
      simp only [go_sem, seval, c3, wh2, h3]
      exact ⟨_, rfl⟩
    obtain ⟨hh, this⟩ := this
    exact callIso_of rfl this (by first | rfl | simp only [go_sem, seval]) (by first | rfl | simp only [go_sem, seval])
end Go.Z
