/-
  Pairs: functions that mirror the runs, and the runs (printed by walk.py).
-/
import Derived.Test.YtbkpojiedkhfkaaGreatR1
import Derived.Test.YtbkpojiedkhfkaaGreatG0a
set_option linter.unusedVariables false
set_option linter.unusedSimpArgs false
set_option maxRecDepth 100000
set_option linter.unusedSimpArgs false
set_option linter.unusedVariables false
set_option maxHeartbeats 4000000
namespace Go.Z
open Go Go.Abs
noncomputable def s115_0 (a0 : GUnit) (a1 : GUnit) (s0 : Int × Int) : Option ((Int × Int) ⊕ ((Int × Int))) :=
  cond (decide (s0.2 < ((a0.values.getD []).length : Int)))
   (obind (idxO (a0.values.getD []) s0.2) fun v12 =>
    obind (idxO (a1.values.getD []) s0.2) fun v14 =>
    some (.inl (max (max s0.1 (wrapF .i64 (v12 - v14))) (wrapF .i64 (v14 - v12)), wrapF .i64 (s0.2 + 1))))
   (some (.inr (s0.1, s0.2)))
def St115_0 (a0 : GUnit) (a1 : GUnit) (s0 : Int × Int) : ASt := ⟨[(3, .ptr 1 0, false), (5, .int .i64 s0.1, false), (9, sl 1 vint a0.values, false), (10, .int .i64 ((a0.values.getD []).length : Int), false), (11, .int .i64 s0.2, false)], [.cells [(.str a0.serial, false), (sl 1 vint a0.values, false)], .cells [(.str a1.serial, false), (sl 1 vint a1.values, false)]]⟩
def Ex115_0 (a0 : GUnit) (a1 : GUnit) (d : (Int × Int)) : AExit × ASt := (.exit 0, ⟨[(3, .ptr 1 0, false), (5, .int .i64 d.1, false), (9, sl 1 vint a0.values, false), (10, .int .i64 ((a0.values.getD []).length : Int), false), (11, .int .i64 d.2, false), (12, .bool false, false)], [.cells [(.str a0.serial, false), (sl 1 vint a0.values, false)], .cells [(.str a1.serial, false), (sl 1 vint a1.values, false)]]⟩)
theorem b115_0 (a0 : GUnit) (a1 : GUnit) (s0 : Int × Int) (r) (h : s115_0 a0 a1 s0 = some r) : stepO pr c115_0 (St115_0 a0 a1) (Ex115_0 a0 a1) s0 r := by
  unfold s115_0 at h
  rcases cond_split h with ⟨h11, h⟩ | ⟨h11, h⟩
  · obtain ⟨v12, h13, h⟩ := obind_some h
    obtain ⟨v14, h15, h⟩ := obind_some h
    cases h
    exact stepO_in (st' := ⟨[(3, .ptr 1 0, false), (5, .int .i64 (max (max s0.1 (wrapF .i64 (v12 - v14))) (wrapF .i64 (v14 - v12))), false), (9, sl 1 vint a0.values, false), (10, .int .i64 ((a0.values.getD []).length : Int), false), (11, .int .i64 (wrapF .i64 (s0.2 + 1)), false)], [.cells [(.str a0.serial, false), (sl 1 vint a0.values, false)], .cells [(.str a1.serial, false), (sl 1 vint a1.values, false)]]⟩) (by simp only [go_sem, seval, c115_0, St115_0, h11, idxR_O h13, idxR_O h15] <;> rfl) (gc_same (Nat.le_refl _))
  · cases h
    exact stepO_out (by simp only [go_sem, seval, c115_0, St115_0, h11, Ex115_0] <;> rfl)
theorem l115_0 (a0 : GUnit) (a1 : GUnit) {s0 : Int × Int} {d} (h : itO (s115_0 a0 a1) s0 = some d) : X pr (.loop c115_0) (St115_0 a0 a1 s0) = some (Ex115_0 a0 a1 d) := X_itO (b115_0 a0 a1) (fun d hh => by cases hh) h
noncomputable def f115 (a0 : GUnit) (a1 : GUnit) : Option Int :=
  obind (itO (s115_0 a0 a1) (0, 0)) fun d16 =>
  some d16.1
theorem W115 {a0 : GUnit} {a1 : GUnit} {r} (h : f115 a0 a1 = some r) : callIso pr (X pr) 115 [.agg [.str a0.serial, sl 1 vint a0.values], .agg [.str a1.serial, sl 1 vint a1.values]] = some (.int .i64 r, false) := by
  unfold f115 at h
  obtain ⟨d16, h17, h⟩ := obind_some h
  have wh17 : X pr (.loop c115_0) ⟨[(3, .ptr 1 0, false), (5, .int .i64 0, false), (9, sl 1 vint a0.values, false), (10, .int .i64 ((a0.values.getD []).length : Int), false), (11, .int .i64 0, false)], [.cells [(.str a0.serial, false), (sl 1 vint a0.values, false)], .cells [(.str a1.serial, false), (sl 1 vint a1.values, false)]]⟩ = some (.exit 0, ⟨[(3, .ptr 1 0, false), (5, .int .i64 d16.1, false), (9, sl 1 vint a0.values, false), (10, .int .i64 ((a0.values.getD []).length : Int), false), (11, .int .i64 d16.2, false), (12, .bool false, false)], [.cells [(.str a0.serial, false), (sl 1 vint a0.values, false)], .cells [(.str a1.serial, false), (sl 1 vint a1.values, false)]]⟩) := l115_0 a0 a1 h17
  have hr : d16.1 = r := Option.some.inj h
  subst hr
  have this : ∃ hh, callFn pr (X pr) 115 [.agg [.str a0.serial, sl 1 vint a0.values], .agg [.str a1.serial, sl 1 vint a1.values]] [] = some (.int .i64 d16.1, false, hh) := by
    rw [callFn_at (show pr.fns 115 = some c115 from rfl) (by simp)]
    simp only [go_sem, seval, c115, wh17]
    exact ⟨_, rfl⟩
  obtain ⟨hh, this⟩ := this
  exact callIso_of rfl this (by first | rfl | simp only [go_sem, seval]) (by first | rfl | simp only [go_sem, seval])
noncomputable def f59 (a0 : GUnit) (a1 : GUnit) : Option (Int × Int) :=
  obind (E97 a0) fun v1 =>
  obind (E97 a1) fun v3 =>
  obind (E24 (!decide (((a0.values.getD []).length : Int) = ((a1.values.getD []).length : Int))) 2) fun v5 =>
  obind (E94 (some [v1, v3, v5])) fun v7 =>
  cond (decide (v7 = 0))
   (obind (f115 a0 a1) fun v10 =>
    some (v10, 0))
   (some (0, v7))
theorem W59 {a0 : GUnit} {a1 : GUnit} {r} (h : f59 a0 a1 = some r) : callIso pr (X pr) 59 [.agg [.str a0.serial, sl 1 vint a0.values], .agg [.str a1.serial, sl 1 vint a1.values]] = some (.tup [.int .i64 r.1, .int .i64 r.2], false) := by
  unfold f59 at h
  obtain ⟨v1, h2, h⟩ := obind_some h
  have wh2 : callIso pr (X pr) 97 [.agg [.str a0.serial, sl 1 vint a0.values]] = some (.int .i64 v1, false) := WE97 h2
  obtain ⟨v3, h4, h⟩ := obind_some h
  have wh4 : callIso pr (X pr) 97 [.agg [.str a1.serial, sl 1 vint a1.values]] = some (.int .i64 v3, false) := WE97 h4
  obtain ⟨v5, h6, h⟩ := obind_some h
  have wh6 : callIso pr (X pr) 89 [.bool (!decide (((a0.values.getD []).length : Int) = ((a1.values.getD []).length : Int))), .int .i64 2] = some (.int .i64 v5, false) := WE89 h6
  obtain ⟨v7, h8, h⟩ := obind_some h
  have wh8 : callIso pr (X pr) 87 [.list false 1 [.int .i64 v1, .int .i64 v3, .int .i64 v5]] = some (.int .i64 v7, false) := WE87 h8
  rcases cond_split h with ⟨h9, h⟩ | ⟨h9, h⟩
  · obtain ⟨v10, h11, h⟩ := obind_some h
    have wh11 : callIso pr (X pr) 115 [.agg [.str a0.serial, sl 1 vint a0.values], .agg [.str a1.serial, sl 1 vint a1.values]] = some (.int .i64 v10, false) := W115 h11
    have hr : (v10, 0) = r := Option.some.inj h
    subst hr
    have this : ∃ hh, callFn pr (X pr) 59 [.agg [.str a0.serial, sl 1 vint a0.values], .agg [.str a1.serial, sl 1 vint a1.values]] [] = some (.tup [.int .i64 v10, .int .i64 0], false, hh) := by
      rw [callFn_at (show pr.fns 59 = some c59 from rfl) (by simp)]
      simp only [go_sem, seval, c59, wh2, wh4, wh6, wh8, h9, wh11]
      exact ⟨_, rfl⟩
    obtain ⟨hh, this⟩ := this
    exact callIso_of rfl this (by first | rfl | simp only [go_sem, seval]) (by first | rfl | simp only [go_sem, seval])
  · have hr : (0, v7) = r := Option.some.inj h
    subst hr
    have this : ∃ hh, callFn pr (X pr) 59 [.agg [.str a0.serial, sl 1 vint a0.values], .agg [.str a1.serial, sl 1 vint a1.values]] [] = some (.tup [.int .i64 0, .int .i64 v7], false, hh) := by
      rw [callFn_at (show pr.fns 59 = some c59 from rfl) (by simp)]
      simp only [go_sem, seval, c59, wh2, wh4, wh6, wh8, h9]
      exact ⟨_, rfl⟩
    obtain ⟨hh, this⟩ := this
    exact callIso_of rfl this (by first | rfl | simp only [go_sem, seval]) (by first | rfl | simp only [go_sem, seval])
noncomputable def s112_0 (a0 : Option (List GUnit)) (s0 : (Option (List Int)) × Int × Bool) : Option (((Option (List Int)) × Int × Bool) ⊕ (((Option (List Int)) × Bool × Int))) :=
  cond (decide (s0.2.1 < ((a0.getD []).length : Int)))
   (cond s0.2.2
     (obind (apO s0.1 [s0.2.1]) fun v11 =>
      some (.inl (v11, wrapF .i64 (s0.2.1 + 1), true)))
     (cond s0.1.isNone
       (obind (apO s0.1 [s0.2.1]) fun v14 =>
        some (.inl (v14, wrapF .i64 (s0.2.1 + 1), true)))
       (none)))
   (some (.inr (s0.1, s0.2.2, s0.2.1)))
def St112_0 (a0 : Option (List GUnit)) (s0 : (Option (List Int)) × Int × Bool) : ASt := ⟨[(3, sl 1 vint s0.1, s0.2.2), (6, .int .i64 ((a0.getD []).length : Int), false), (7, .int .i64 s0.2.1, false)], []⟩
def Ex112_0 (a0 : Option (List GUnit)) (d : ((Option (List Int)) × Bool × Int)) : AExit × ASt := (.exit 0, ⟨[(3, sl 1 vint d.1, d.2.1), (6, .int .i64 ((a0.getD []).length : Int), false), (7, .int .i64 d.2.2, false), (8, .bool false, false)], []⟩)
theorem b112_0 (a0 : Option (List GUnit)) (s0 : (Option (List Int)) × Int × Bool) (r) (h : s112_0 a0 s0 = some r) : stepO pr c112_0 (St112_0 a0) (Ex112_0 a0) s0 r := by
  unfold s112_0 at h
  rcases cond_split h with ⟨h9, h⟩ | ⟨h9, h⟩
  · rcases cond_split h with ⟨h10, h⟩ | ⟨h10, h⟩
    · obtain ⟨v11, h12, h⟩ := obind_some h
      cases h
      exact stepO_in (st' := ⟨[(3, sl 1 vint v11, true), (6, .int .i64 ((a0.getD []).length : Int), false), (7, .int .i64 (wrapF .i64 (s0.2.1 + 1)), false)], []⟩) (by simp only [go_sem, seval, c112_0, St112_0, h9, h10, app_vint_O h12] <;> rfl) (gc_same (Nat.le_refl _))
    · rcases cond_split h with ⟨h13, h⟩ | ⟨h13, h⟩
      · obtain ⟨v14, h15, h⟩ := obind_some h
        cases h
        exact stepO_in (st' := ⟨[(3, sl 1 vint v14, true), (6, .int .i64 ((a0.getD []).length : Int), false), (7, .int .i64 (wrapF .i64 (s0.2.1 + 1)), false)], []⟩) (by simp only [go_sem, seval, c112_0, St112_0, h9, h10, h13, app_vint_N h15 h13] <;> rfl) (gc_same (Nat.le_refl _))
      · cases h
  · cases h
    exact stepO_out (by simp only [go_sem, seval, c112_0, St112_0, h9, Ex112_0] <;> rfl)
theorem l112_0 (a0 : Option (List GUnit)) {s0 : (Option (List Int)) × Int × Bool} {d} (h : itO (s112_0 a0) s0 = some d) : X pr (.loop c112_0) (St112_0 a0 s0) = some (Ex112_0 a0 d) := X_itO (b112_0 a0) (fun d hh => by cases hh) h
noncomputable def f112 (a0 : Option (List GUnit)) : Option ((Option (List Int)) × Bool) :=
  obind (itO (s112_0 a0) (none, 0, false)) fun d16 =>
  some (d16.1, d16.2.1)
theorem W112 {a0 : Option (List GUnit)} {r} (h : f112 a0 = some r) : callIso pr (X pr) 112 [sl 2 vunit a0] = some (sl 1 vint r.1, r.2) := by
  unfold f112 at h
  obtain ⟨d16, h17, h⟩ := obind_some h
  have wh17 : X pr (.loop c112_0) ⟨[(3, .list true 0 [], false), (6, .int .i64 ((a0.getD []).length : Int), false), (7, .int .i64 0, false)], []⟩ = some (.exit 0, ⟨[(3, sl 1 vint d16.1, d16.2.1), (6, .int .i64 ((a0.getD []).length : Int), false), (7, .int .i64 d16.2.2, false), (8, .bool false, false)], []⟩) := l112_0 a0 h17
  have hr : (d16.1, d16.2.1) = r := Option.some.inj h
  subst hr
  have this : ∃ hh, callFn pr (X pr) 112 [sl 2 vunit a0] [] = some (sl 1 vint d16.1, d16.2.1, hh) := by
    rw [callFn_at (show pr.fns 112 = some c112 from rfl) (by simp)]
    simp only [go_sem, seval, c112, wh17]
    exact ⟨_, rfl⟩
  obtain ⟨hh, this⟩ := this
  exact callIso_of_dyn rfl this (by first | rfl | simp only [go_sem, seval]) (by first | rfl | simp only [go_sem, seval]) (by first | rfl | simp only [go_sem, seval])
noncomputable def f146 (a0 : GPair) (c0_0 : Option (List GUnit)) (c1_0 : Int) (c1_1 : Int) : Option Int :=
  obind (idxO (c0_0.getD []) a0.a) fun v1 =>
  obind (idxO (c0_0.getD []) a0.b) fun v3 =>
  obind (f115 v1 v3) fun v5 =>
  some v5
theorem W146 {a0 : GPair} {c0_0 : Option (List GUnit)} {c1_0 : Int} {c1_1 : Int} {r} (h : f146 a0 c0_0 c1_0 c1_1 = some r) : callFn pr (X pr) 146 [.agg [.int .i64 a0.a, .int .i64 a0.b], .ptr 0 0] [.cells [(sl 2 vunit c0_0, false)], .cells [(.int .i64 c1_0, false), (.int .i64 c1_1, false)]] = some (.int .i64 r, false, [.cells [(sl 2 vunit c0_0, false)], .cells [(.int .i64 c1_0, false), (.int .i64 c1_1, false)], .cells [(.int .i64 a0.a, false), (.int .i64 a0.b, false)]]) := by
  unfold f146 at h
  obtain ⟨v1, h2, h⟩ := obind_some h
  obtain ⟨v3, h4, h⟩ := obind_some h
  obtain ⟨v5, h6, h⟩ := obind_some h
  have wh6 : callIso pr (X pr) 115 [.agg [.str v1.serial, sl 1 vint v1.values], .agg [.str v3.serial, sl 1 vint v3.values]] = some (.int .i64 v5, false) := W115 h6
  have hr : v5 = r := Option.some.inj h
  subst hr
  rw [callFn_at (show pr.fns 146 = some c146 from rfl) (by simp)]
  simp only [go_sem, seval, c146, idxR_O h2, idxR_O h4, wh6] <;> rfl
noncomputable def s145_0 (a0 : Option (List GPair)) (c0_0 : Option (List GUnit)) (s0 : (Option (List Int)) × Int × Bool) : Option (((Option (List Int)) × Int × Bool) ⊕ (((Option (List Int)) × Bool × Int))) :=
  cond (decide (s0.2.1 < ((a0.getD []).length : Int)))
   (obind (idxO (a0.getD []) s0.2.1) fun v18 =>
    obind (f146 v18 c0_0 v18.a v18.b) fun v20 =>
    cond s0.2.2
     (obind (apO s0.1 [v20]) fun v23 =>
      some (.inl (v23, wrapF .i64 (s0.2.1 + 1), true)))
     (cond s0.1.isNone
       (obind (apO s0.1 [v20]) fun v26 =>
        some (.inl (v26, wrapF .i64 (s0.2.1 + 1), true)))
       (none)))
   (some (.inr (s0.1, s0.2.2, s0.2.1)))
def St145_0 (a0 : Option (List GPair)) (c0_0 : Option (List GUnit)) (s0 : (Option (List Int)) × Int × Bool) : ASt := ⟨[(1, .fn (.func 146) [] [.ptr 0 0], false), (5, sl 1 vint s0.1, s0.2.2), (8, sl 2 vpair a0, false), (9, .int .i64 ((a0.getD []).length : Int), false), (10, .int .i64 s0.2.1, false)], [.cells [(sl 2 vunit c0_0, false)]]⟩
def Ex145_0 (a0 : Option (List GPair)) (c0_0 : Option (List GUnit)) (d : ((Option (List Int)) × Bool × Int)) : AExit × ASt := (.exit 0, ⟨[(1, .fn (.func 146) [] [.ptr 0 0], false), (5, sl 1 vint d.1, d.2.1), (8, sl 2 vpair a0, false), (9, .int .i64 ((a0.getD []).length : Int), false), (10, .int .i64 d.2.2, false), (11, .bool false, false)], [.cells [(sl 2 vunit c0_0, false)]]⟩)
theorem b145_0 (a0 : Option (List GPair)) (c0_0 : Option (List GUnit)) (s0 : (Option (List Int)) × Int × Bool) (r) (h : s145_0 a0 c0_0 s0 = some r) : stepO pr c145_0 (St145_0 a0 c0_0) (Ex145_0 a0 c0_0) s0 r := by
  unfold s145_0 at h
  rcases cond_split h with ⟨h17, h⟩ | ⟨h17, h⟩
  · obtain ⟨v18, h19, h⟩ := obind_some h
    obtain ⟨v20, h21, h⟩ := obind_some h
    have wh21 : callFn pr (X pr) 146 [.agg [.int .i64 v18.a, .int .i64 v18.b], .ptr 0 0] [.cells [(sl 2 vunit c0_0, false)], .cells [(.int .i64 v18.a, false), (.int .i64 v18.b, false)]] = some (.int .i64 v20, false, [.cells [(sl 2 vunit c0_0, false)], .cells [(.int .i64 v18.a, false), (.int .i64 v18.b, false)], .cells [(.int .i64 v18.a, false), (.int .i64 v18.b, false)]]) := W146 h21
    rcases cond_split h with ⟨h22, h⟩ | ⟨h22, h⟩
    · obtain ⟨v23, h24, h⟩ := obind_some h
      cases h
      exact stepO_in (st' := ⟨[(1, .fn (.func 146) [] [.ptr 0 0], false), (5, sl 1 vint v23, true), (8, sl 2 vpair a0, false), (9, .int .i64 ((a0.getD []).length : Int), false), (10, .int .i64 (wrapF .i64 (s0.2.1 + 1)), false)], [.cells [(sl 2 vunit c0_0, false)]] ++ [.cells [(.int .i64 v18.a, false), (.int .i64 v18.b, false)]]⟩) (by simp only [go_sem, seval, c145_0, St145_0, h17, idxR_O h19, wh21, h22, app_vint_O h24] <;> rfl) (gc_over rfl rfl (by first | simp only [go_sem, seval, St145_0] | rfl) (by first | simp only [go_sem, seval, St145_0] | rfl))
    · rcases cond_split h with ⟨h25, h⟩ | ⟨h25, h⟩
      · obtain ⟨v26, h27, h⟩ := obind_some h
        cases h
        exact stepO_in (st' := ⟨[(1, .fn (.func 146) [] [.ptr 0 0], false), (5, sl 1 vint v26, true), (8, sl 2 vpair a0, false), (9, .int .i64 ((a0.getD []).length : Int), false), (10, .int .i64 (wrapF .i64 (s0.2.1 + 1)), false)], [.cells [(sl 2 vunit c0_0, false)]] ++ [.cells [(.int .i64 v18.a, false), (.int .i64 v18.b, false)]]⟩) (by simp only [go_sem, seval, c145_0, St145_0, h17, idxR_O h19, wh21, h22, h25, app_vint_N h27 h25] <;> rfl) (gc_over rfl rfl (by first | simp only [go_sem, seval, St145_0] | rfl) (by first | simp only [go_sem, seval, St145_0] | rfl))
      · cases h
  · cases h
    exact stepO_out (by simp only [go_sem, seval, c145_0, St145_0, h17, Ex145_0] <;> rfl)
theorem l145_0 (a0 : Option (List GPair)) (c0_0 : Option (List GUnit)) {s0 : (Option (List Int)) × Int × Bool} {d} (h : itO (s145_0 a0 c0_0) s0 = some d) : X pr (.loop c145_0) (St145_0 a0 c0_0 s0) = some (Ex145_0 a0 c0_0 d) := X_itO (b145_0 a0 c0_0) (fun d hh => by cases hh) h
noncomputable def f145 (a0 : Option (List GPair)) (c0_0 : Option (List GUnit)) : Option ((Option (List Int)) × Bool) :=
  obind (itO (s145_0 a0 c0_0) (none, 0, false)) fun d28 =>
  some (d28.1, d28.2.1)
theorem W145 {a0 : Option (List GPair)} {c0_0 : Option (List GUnit)} {r} (h : f145 a0 c0_0 = some r) : callFn pr (X pr) 145 [sl 2 vpair a0, .fn (.func 146) [] [.ptr 0 0]] [.cells [(sl 2 vunit c0_0, false)]] = some (sl 1 vint r.1, r.2, [.cells [(sl 2 vunit c0_0, false)]]) := by
  unfold f145 at h
  obtain ⟨d28, h29, h⟩ := obind_some h
  have wh29 : X pr (.loop c145_0) ⟨[(1, .fn (.func 146) [] [.ptr 0 0], false), (5, .list true 0 [], false), (8, sl 2 vpair a0, false), (9, .int .i64 ((a0.getD []).length : Int), false), (10, .int .i64 0, false)], [.cells [(sl 2 vunit c0_0, false)]]⟩ = some (.exit 0, ⟨[(1, .fn (.func 146) [] [.ptr 0 0], false), (5, sl 1 vint d28.1, d28.2.1), (8, sl 2 vpair a0, false), (9, .int .i64 ((a0.getD []).length : Int), false), (10, .int .i64 d28.2.2, false), (11, .bool false, false)], [.cells [(sl 2 vunit c0_0, false)]]⟩) := l145_0 a0 c0_0 h29
  have hr : (d28.1, d28.2.1) = r := Option.some.inj h
  subst hr
  rw [callFn_at (show pr.fns 145 = some c145 from rfl) (by simp)]
  simp only [go_sem, seval, c145, wh29] <;> rfl
noncomputable def f122 (a0 : Option (List GUnit)) (a1 : Option (List GPair)) : Option Int :=
  obind (f145 a1 a0) fun v1 =>
  cond v1.2
   (obind (apO v1.1 [0]) fun v4 =>
    obind (E93 v4) fun v6 =>
    some v6)
   (cond v1.1.isNone
     (obind (apO v1.1 [0]) fun v9 =>
      obind (E93 v9) fun v11 =>
      some v11)
     (none))
theorem W122 {a0 : Option (List GUnit)} {a1 : Option (List GPair)} {r} (h : f122 a0 a1 = some r) : callIso pr (X pr) 122 [sl 2 vunit a0, sl 2 vpair a1] = some (.int .i64 r, false) := by
  unfold f122 at h
  obtain ⟨v1, h2, h⟩ := obind_some h
  have wh2 : callFn pr (X pr) 145 [sl 2 vpair a1, .fn (.func 146) [] [.ptr 0 0]] [.cells [(sl 2 vunit a0, false)]] = some (sl 1 vint v1.1, v1.2, [.cells [(sl 2 vunit a0, false)]]) := W145 h2
  rcases cond_split h with ⟨h3, h⟩ | ⟨h3, h⟩
  · obtain ⟨v4, h5, h⟩ := obind_some h
    obtain ⟨v6, h7, h⟩ := obind_some h
    have wh7 : callIso pr (X pr) 93 [sl 1 vint v4] = some (.int .i64 v6, false) := WE93 h7
    have hr : v6 = r := Option.some.inj h
    subst hr
    have this : ∃ hh, callFn pr (X pr) 122 [sl 2 vunit a0, sl 2 vpair a1] [] = some (.int .i64 v6, false, hh) := by
      rw [callFn_at (show pr.fns 122 = some c122 from rfl) (by simp)]
      simp only [go_sem, seval, c122, wh2, h3, app_vint_O h5, wh7]
      exact ⟨_, rfl⟩
    obtain ⟨hh, this⟩ := this
    exact callIso_of rfl this (by first | rfl | simp only [go_sem, seval]) (by first | rfl | simp only [go_sem, seval])
  · rcases cond_split h with ⟨h8, h⟩ | ⟨h8, h⟩
    · obtain ⟨v9, h10, h⟩ := obind_some h
      obtain ⟨v11, h12, h⟩ := obind_some h
      have wh12 : callIso pr (X pr) 93 [sl 1 vint v9] = some (.int .i64 v11, false) := WE93 h12
      have hr : v11 = r := Option.some.inj h
      subst hr
      have this : ∃ hh, callFn pr (X pr) 122 [sl 2 vunit a0, sl 2 vpair a1] [] = some (.int .i64 v11, false, hh) := by
        rw [callFn_at (show pr.fns 122 = some c122 from rfl) (by simp)]
        simp only [go_sem, seval, c122, wh2, h3, h8, app_vint_N h10 h8, wh12]
        exact ⟨_, rfl⟩
      obtain ⟨hh, this⟩ := this
      exact callIso_of rfl this (by first | rfl | simp only [go_sem, seval]) (by first | rfl | simp only [go_sem, seval])
    · cases h
noncomputable def s68_0 (a0 : GUnit) (a1 : GUnit) (s0 : Int × Int) : Option ((Int × Int) ⊕ ((Int × Int))) :=
  cond (decide (s0.2 < ((a0.values.getD []).length : Int)))
   (obind (idxO (a0.values.getD []) s0.2) fun v12 =>
    obind (idxO (a1.values.getD []) s0.2) fun v14 =>
    some (.inl (max (max s0.1 (wrapF .i64 (v12 - v14))) (wrapF .i64 (v14 - v12)), wrapF .i64 (s0.2 + 1))))
   (some (.inr (s0.1, s0.2)))
def St68_0 (a0 : GUnit) (a1 : GUnit) (s0 : Int × Int) : ASt := ⟨[(2, .ptr 0 0, false), (3, .ptr 1 0, false), (5, .int .i64 s0.1, false), (6, .int .i64 s0.2, false)], [.cells [(.str a0.serial, false), (sl 1 vint a0.values, false)], .cells [(.str a1.serial, false), (sl 1 vint a1.values, false)]]⟩
def Ex68_0 (a0 : GUnit) (a1 : GUnit) (d : (Int × Int)) : AExit × ASt := (.exit 0, ⟨[(2, .ptr 0 0, false), (3, .ptr 1 0, false), (5, .int .i64 d.1, false), (6, .int .i64 d.2, false), (11, .bool false, false)], [.cells [(.str a0.serial, false), (sl 1 vint a0.values, false)], .cells [(.str a1.serial, false), (sl 1 vint a1.values, false)]]⟩)
theorem b68_0 (a0 : GUnit) (a1 : GUnit) (s0 : Int × Int) (r) (h : s68_0 a0 a1 s0 = some r) : stepO pr c68_0 (St68_0 a0 a1) (Ex68_0 a0 a1) s0 r := by
  unfold s68_0 at h
  rcases cond_split h with ⟨h11, h⟩ | ⟨h11, h⟩
  · obtain ⟨v12, h13, h⟩ := obind_some h
    obtain ⟨v14, h15, h⟩ := obind_some h
    cases h
    exact stepO_in (st' := ⟨[(2, .ptr 0 0, false), (3, .ptr 1 0, false), (5, .int .i64 (max (max s0.1 (wrapF .i64 (v12 - v14))) (wrapF .i64 (v14 - v12))), false), (6, .int .i64 (wrapF .i64 (s0.2 + 1)), false)], [.cells [(.str a0.serial, false), (sl 1 vint a0.values, false)], .cells [(.str a1.serial, false), (sl 1 vint a1.values, false)]]⟩) (by simp only [go_sem, seval, c68_0, St68_0, h11, idxR_O h13, idxR_O h15] <;> rfl) (gc_same (Nat.le_refl _))
  · cases h
    exact stepO_out (by simp only [go_sem, seval, c68_0, St68_0, h11, Ex68_0] <;> rfl)
theorem l68_0 (a0 : GUnit) (a1 : GUnit) {s0 : Int × Int} {d} (h : itO (s68_0 a0 a1) s0 = some d) : X pr (.loop c68_0) (St68_0 a0 a1 s0) = some (Ex68_0 a0 a1 d) := X_itO (b68_0 a0 a1) (fun d hh => by cases hh) h
noncomputable def f68 (a0 : GUnit) (a1 : GUnit) : Option Int :=
  obind (itO (s68_0 a0 a1) (0, 0)) fun d16 =>
  some d16.1
theorem W68 {a0 : GUnit} {a1 : GUnit} {r} (h : f68 a0 a1 = some r) : callIso pr (X pr) 68 [.agg [.str a0.serial, sl 1 vint a0.values], .agg [.str a1.serial, sl 1 vint a1.values]] = some (.int .i64 r, false) := by
  unfold f68 at h
  obtain ⟨d16, h17, h⟩ := obind_some h
  have wh17 : X pr (.loop c68_0) ⟨[(2, .ptr 0 0, false), (3, .ptr 1 0, false), (5, .int .i64 0, false), (6, .int .i64 0, false)], [.cells [(.str a0.serial, false), (sl 1 vint a0.values, false)], .cells [(.str a1.serial, false), (sl 1 vint a1.values, false)]]⟩ = some (.exit 0, ⟨[(2, .ptr 0 0, false), (3, .ptr 1 0, false), (5, .int .i64 d16.1, false), (6, .int .i64 d16.2, false), (11, .bool false, false)], [.cells [(.str a0.serial, false), (sl 1 vint a0.values, false)], .cells [(.str a1.serial, false), (sl 1 vint a1.values, false)]]⟩) := l68_0 a0 a1 h17
  have hr : d16.1 = r := Option.some.inj h
  subst hr
  have this : ∃ hh, callFn pr (X pr) 68 [.agg [.str a0.serial, sl 1 vint a0.values], .agg [.str a1.serial, sl 1 vint a1.values]] [] = some (.int .i64 d16.1, false, hh) := by
    rw [callFn_at (show pr.fns 68 = some c68 from rfl) (by simp)]
    simp only [go_sem, seval, c68, wh17]
    exact ⟨_, rfl⟩
  obtain ⟨hh, this⟩ := this
  exact callIso_of rfl this (by first | rfl | simp only [go_sem, seval]) (by first | rfl | simp only [go_sem, seval])
noncomputable def f67 (a0 : GUnit) (a1 : GUnit) : Option Int :=
  obind (E97 a0) fun v1 =>
  obind (E97 a1) fun v3 =>
  obind (E24 (!decide (((a0.values.getD []).length : Int) = ((a1.values.getD []).length : Int))) 2) fun v5 =>
  obind (E94 (some [v1, v3, v5])) fun v7 =>
  some v7
theorem W67 {a0 : GUnit} {a1 : GUnit} {r} (h : f67 a0 a1 = some r) : callIso pr (X pr) 67 [.agg [.str a0.serial, sl 1 vint a0.values], .agg [.str a1.serial, sl 1 vint a1.values]] = some (.int .i64 r, false) := by
  unfold f67 at h
  obtain ⟨v1, h2, h⟩ := obind_some h
  have wh2 : callIso pr (X pr) 95 [.agg [.str a0.serial, sl 1 vint a0.values]] = some (.int .i64 v1, false) := WE95 h2
  obtain ⟨v3, h4, h⟩ := obind_some h
  have wh4 : callIso pr (X pr) 95 [.agg [.str a1.serial, sl 1 vint a1.values]] = some (.int .i64 v3, false) := WE95 h4
  obtain ⟨v5, h6, h⟩ := obind_some h
  have wh6 : callIso pr (X pr) 96 [.bool (!decide (((a0.values.getD []).length : Int) = ((a1.values.getD []).length : Int))), .int .i64 2] = some (.int .i64 v5, false) := WE96 h6
  obtain ⟨v7, h8, h⟩ := obind_some h
  have wh8 : callIso pr (X pr) 94 [.list false 1 [.int .i64 v1, .int .i64 v3, .int .i64 v5]] = some (.int .i64 v7, false) := WE94 h8
  have hr : v7 = r := Option.some.inj h
  subst hr
  have this : ∃ hh, callFn pr (X pr) 67 [.agg [.str a0.serial, sl 1 vint a0.values], .agg [.str a1.serial, sl 1 vint a1.values]] [] = some (.int .i64 v7, false, hh) := by
    rw [callFn_at (show pr.fns 67 = some c67 from rfl) (by simp)]
    simp only [go_sem, seval, c67, wh2, wh4, wh6, wh8]
    exact ⟨_, rfl⟩
  obtain ⟨hh, this⟩ := this
  exact callIso_of rfl this (by first | rfl | simp only [go_sem, seval]) (by first | rfl | simp only [go_sem, seval])
noncomputable def s71_0 (a0 : Option (List GUnit)) (a1 : Option (List GPair)) (s0 : Int × Int) : Option ((Int × Int) ⊕ ((Int × Int))) :=
  cond (decide (s0.2 < ((a1.getD []).length : Int)))
   (obind (idxO (a1.getD []) s0.2) fun v20 =>
    obind (idxO (a0.getD []) v20.a) fun v22 =>
    obind (idxO (a0.getD []) v20.b) fun v24 =>
    obind (f68 v22 v24) fun v26 =>
    some (.inl (max s0.1 v26, wrapF .i64 (s0.2 + 1))))
   (some (.inr (s0.1, s0.2)))
def St71_0 (a0 : Option (List GUnit)) (a1 : Option (List GPair)) (s0 : Int × Int) : ASt := ⟨[(0, sl 2 vunit a0, false), (1, sl 2 vpair a1, false), (5, .int .i64 s0.1, false), (6, .int .i64 s0.2, false)], []⟩
def Ex71_0 (a0 : Option (List GUnit)) (a1 : Option (List GPair)) (d : (Int × Int)) : AExit × ASt := (.exit 0, ⟨[(0, sl 2 vunit a0, false), (1, sl 2 vpair a1, false), (5, .int .i64 d.1, false), (6, .int .i64 d.2, false), (10, .bool false, false)], []⟩)
theorem b71_0 (a0 : Option (List GUnit)) (a1 : Option (List GPair)) (s0 : Int × Int) (r) (h : s71_0 a0 a1 s0 = some r) : stepO pr c71_0 (St71_0 a0 a1) (Ex71_0 a0 a1) s0 r := by
  unfold s71_0 at h
  rcases cond_split h with ⟨h19, h⟩ | ⟨h19, h⟩
  · obtain ⟨v20, h21, h⟩ := obind_some h
    obtain ⟨v22, h23, h⟩ := obind_some h
    obtain ⟨v24, h25, h⟩ := obind_some h
    obtain ⟨v26, h27, h⟩ := obind_some h
    have wh27 : callIso pr (X pr) 68 [.agg [.str v22.serial, sl 1 vint v22.values], .agg [.str v24.serial, sl 1 vint v24.values]] = some (.int .i64 v26, false) := W68 h27
    cases h
    exact stepO_in (st' := ⟨[(0, sl 2 vunit a0, false), (1, sl 2 vpair a1, false), (5, .int .i64 (max s0.1 v26), false), (6, .int .i64 (wrapF .i64 (s0.2 + 1)), false)], []⟩) (by simp only [go_sem, seval, c71_0, St71_0, h19, idxR_O h21, idxR_O h23, idxR_O h25, wh27] <;> rfl) (gc_same (Nat.le_refl _))
  · cases h
    exact stepO_out (by simp only [go_sem, seval, c71_0, St71_0, h19, Ex71_0] <;> rfl)
theorem l71_0 (a0 : Option (List GUnit)) (a1 : Option (List GPair)) {s0 : Int × Int} {d} (h : itO (s71_0 a0 a1) s0 = some d) : X pr (.loop c71_0) (St71_0 a0 a1 s0) = some (Ex71_0 a0 a1 d) := X_itO (b71_0 a0 a1) (fun d hh => by cases hh) h
noncomputable def f71 (a0 : Option (List GUnit)) (a1 : Option (List GPair)) : Option Int :=
  obind (itO (s71_0 a0 a1) (0, 0)) fun d28 =>
  some d28.1
theorem W71 {a0 : Option (List GUnit)} {a1 : Option (List GPair)} {r} (h : f71 a0 a1 = some r) : callIso pr (X pr) 71 [sl 2 vunit a0, sl 2 vpair a1] = some (.int .i64 r, false) := by
  unfold f71 at h
  obtain ⟨d28, h29, h⟩ := obind_some h
  have wh29 : X pr (.loop c71_0) ⟨[(0, sl 2 vunit a0, false), (1, sl 2 vpair a1, false), (5, .int .i64 0, false), (6, .int .i64 0, false)], []⟩ = some (.exit 0, ⟨[(0, sl 2 vunit a0, false), (1, sl 2 vpair a1, false), (5, .int .i64 d28.1, false), (6, .int .i64 d28.2, false), (10, .bool false, false)], []⟩) := l71_0 a0 a1 h29
  have hr : d28.1 = r := Option.some.inj h
  subst hr
  have this : ∃ hh, callFn pr (X pr) 71 [sl 2 vunit a0, sl 2 vpair a1] [] = some (.int .i64 d28.1, false, hh) := by
    rw [callFn_at (show pr.fns 71 = some c71 from rfl) (by simp)]
    simp only [go_sem, seval, c71, wh29]
    exact ⟨_, rfl⟩
  obtain ⟨hh, this⟩ := this
  exact callIso_of rfl this (by first | rfl | simp only [go_sem, seval]) (by first | rfl | simp only [go_sem, seval])
noncomputable def s72_1 (a0 : Option (List GUnit)) (s0 : Int × Int × Int) (s1 : Int × Int) : Option ((Int × Int) ⊕ ((Int × Int))) :=
  cond (decide (s1.2 < ((a0.getD []).length : Int)))
   (obind (idxO (a0.getD []) s0.2.2) fun v87 =>
    obind (idxO (a0.getD []) s1.2) fun v89 =>
    obind (f68 v87 v89) fun v91 =>
    some (.inl (max s1.1 v91, wrapF .i64 (s1.2 + 1))))
   (some (.inr (s1.1, s1.2)))
def St72_1 (a0 : Option (List GUnit)) (s0 : Int × Int × Int) (s1 : Int × Int) : ASt := ⟨[(0, sl 2 vunit a0, false), (3, .int .i64 s0.1, false), (4, .int .i64 s0.2.1, false), (5, .int .i64 s0.2.2, false), (6, .int .i64 s1.1, false), (7, .int .i64 s1.2, false)], []⟩
def Ex72_1 (a0 : Option (List GUnit)) (s0 : Int × Int × Int) (d : (Int × Int)) : AExit × ASt := (.exit 2, ⟨[(0, sl 2 vunit a0, false), (3, .int .i64 s0.1, false), (4, .int .i64 s0.2.1, false), (5, .int .i64 s0.2.2, false), (6, .int .i64 d.1, false), (7, .int .i64 d.2, false), (17, .bool false, false)], []⟩)
theorem b72_1 (a0 : Option (List GUnit)) (s0 : Int × Int × Int) (s1 : Int × Int) (r) (h : s72_1 a0 s0 s1 = some r) : stepO pr c72_1 (St72_1 a0 s0) (Ex72_1 a0 s0) s1 r := by
  unfold s72_1 at h
  rcases cond_split h with ⟨h86, h⟩ | ⟨h86, h⟩
  · obtain ⟨v87, h88, h⟩ := obind_some h
    obtain ⟨v89, h90, h⟩ := obind_some h
    obtain ⟨v91, h92, h⟩ := obind_some h
    have wh92 : callIso pr (X pr) 68 [.agg [.str v87.serial, sl 1 vint v87.values], .agg [.str v89.serial, sl 1 vint v89.values]] = some (.int .i64 v91, false) := W68 h92
    cases h
    exact stepO_in (st' := ⟨[(0, sl 2 vunit a0, false), (3, .int .i64 s0.1, false), (4, .int .i64 s0.2.1, false), (5, .int .i64 s0.2.2, false), (6, .int .i64 (max s1.1 v91), false), (7, .int .i64 (wrapF .i64 (s1.2 + 1)), false)], []⟩) (by simp only [go_sem, seval, c72_1, St72_1, h86, idxR_O h88, idxR_O h90, wh92] <;> rfl) (gc_same (Nat.le_refl _))
  · cases h
    exact stepO_out (by simp only [go_sem, seval, c72_1, St72_1, h86, Ex72_1] <;> rfl)
theorem l72_1 (a0 : Option (List GUnit)) (s0 : Int × Int × Int) {s1 : Int × Int} {d} (h : itO (s72_1 a0 s0) s1 = some d) : X pr (.loop c72_1) (St72_1 a0 s0 s1) = some (Ex72_1 a0 s0 d) := X_itO (b72_1 a0 s0) (fun d hh => by cases hh) h
noncomputable def s72_0 (a0 : Option (List GUnit)) (s0 : Int × Int × Int) : Option ((Int × Int × Int) ⊕ ((Int × Int × Int))) :=
  cond (decide (s0.2.2 < ((a0.getD []).length : Int)))
   (obind (itO (s72_1 a0 s0) (0, 0)) fun d93 =>
    cond (decide (s0.2.2 = 0))
     (some (.inl (s0.2.2, d93.1, wrapF .i64 (s0.2.2 + 1))))
     (cond (decide (d93.1 < s0.2.1))
       (some (.inl (s0.2.2, d93.1, wrapF .i64 (s0.2.2 + 1))))
       (some (.inl (s0.1, s0.2.1, wrapF .i64 (s0.2.2 + 1))))))
   (some (.inr (s0.1, s0.2.1, s0.2.2)))
def St72_0 (a0 : Option (List GUnit)) (s0 : Int × Int × Int) : ASt := ⟨[(0, sl 2 vunit a0, false), (3, .int .i64 s0.1, false), (4, .int .i64 s0.2.1, false), (5, .int .i64 s0.2.2, false)], []⟩
def Ex72_0 (a0 : Option (List GUnit)) (d : (Int × Int × Int)) : AExit × ASt := (.exit 0, ⟨[(0, sl 2 vunit a0, false), (3, .int .i64 d.1, false), (4, .int .i64 d.2.1, false), (5, .int .i64 d.2.2, false), (11, .bool false, false)], []⟩)
theorem b72_0 (a0 : Option (List GUnit)) (s0 : Int × Int × Int) (r) (h : s72_0 a0 s0 = some r) : stepO pr c72_0 (St72_0 a0) (Ex72_0 a0) s0 r := by
  unfold s72_0 at h
  rcases cond_split h with ⟨h71, h⟩ | ⟨h71, h⟩
  · obtain ⟨d93, h94, h⟩ := obind_some h
    have wh94 : X pr (.loop c72_1) ⟨[(0, sl 2 vunit a0, false), (3, .int .i64 s0.1, false), (4, .int .i64 s0.2.1, false), (5, .int .i64 s0.2.2, false), (6, .int .i64 0, false), (7, .int .i64 0, false)], []⟩ = some (.exit 2, ⟨[(0, sl 2 vunit a0, false), (3, .int .i64 s0.1, false), (4, .int .i64 s0.2.1, false), (5, .int .i64 s0.2.2, false), (6, .int .i64 d93.1, false), (7, .int .i64 d93.2, false), (17, .bool false, false)], []⟩) := l72_1 a0 s0 h94
    rcases cond_split h with ⟨h95, h⟩ | ⟨h95, h⟩
    · cases h
      exact stepO_in (st' := ⟨[(0, sl 2 vunit a0, false), (3, .int .i64 s0.2.2, false), (4, .int .i64 d93.1, false), (5, .int .i64 (wrapF .i64 (s0.2.2 + 1)), false)], []⟩) (by simp only [go_sem, seval, c72_0, St72_0, h71, wh94, h95] <;> rfl) (gc_same (Nat.le_refl _))
    · rcases cond_split h with ⟨h96, h⟩ | ⟨h96, h⟩
      · cases h
        exact stepO_in (st' := ⟨[(0, sl 2 vunit a0, false), (3, .int .i64 s0.2.2, false), (4, .int .i64 d93.1, false), (5, .int .i64 (wrapF .i64 (s0.2.2 + 1)), false)], []⟩) (by simp only [go_sem, seval, c72_0, St72_0, h71, wh94, h95, h96] <;> rfl) (gc_same (Nat.le_refl _))
      · cases h
        exact stepO_in (st' := ⟨[(0, sl 2 vunit a0, false), (3, .int .i64 s0.1, false), (4, .int .i64 s0.2.1, false), (5, .int .i64 (wrapF .i64 (s0.2.2 + 1)), false)], []⟩) (by simp only [go_sem, seval, c72_0, St72_0, h71, wh94, h95, h96] <;> rfl) (gc_same (Nat.le_refl _))
  · cases h
    exact stepO_out (by simp only [go_sem, seval, c72_0, St72_0, h71, Ex72_0] <;> rfl)
theorem l72_0 (a0 : Option (List GUnit)) {s0 : Int × Int × Int} {d} (h : itO (s72_0 a0) s0 = some d) : X pr (.loop c72_0) (St72_0 a0 s0) = some (Ex72_0 a0 d) := X_itO (b72_0 a0) (fun d hh => by cases hh) h
noncomputable def f72 (a0 : Option (List GUnit)) : Option Int :=
  obind (itO (s72_0 a0) (0, 0, 0)) fun d97 =>
  some d97.1
theorem W72 {a0 : Option (List GUnit)} {r} (h : f72 a0 = some r) : callIso pr (X pr) 72 [sl 2 vunit a0] = some (.int .i64 r, false) := by
  unfold f72 at h
  obtain ⟨d97, h98, h⟩ := obind_some h
  have wh98 : X pr (.loop c72_0) ⟨[(0, sl 2 vunit a0, false), (3, .int .i64 0, false), (4, .int .i64 0, false), (5, .int .i64 0, false)], []⟩ = some (.exit 0, ⟨[(0, sl 2 vunit a0, false), (3, .int .i64 d97.1, false), (4, .int .i64 d97.2.1, false), (5, .int .i64 d97.2.2, false), (11, .bool false, false)], []⟩) := l72_0 a0 h98
  have hr : d97.1 = r := Option.some.inj h
  subst hr
  have this : ∃ hh, callFn pr (X pr) 72 [sl 2 vunit a0] [] = some (.int .i64 d97.1, false, hh) := by
    rw [callFn_at (show pr.fns 72 = some c72 from rfl) (by simp)]
    simp only [go_sem, seval, c72, wh98]
    exact ⟨_, rfl⟩
  obtain ⟨hh, this⟩ := this
  exact callIso_of rfl this (by first | rfl | simp only [go_sem, seval]) (by first | rfl | simp only [go_sem, seval])
noncomputable def s73_0 (a0 : Option (List GPair)) (a1 : Option (List GPair)) (s0 : Int) : Option (Int ⊕ (Unit ⊕ Int)) :=
  cond (decide (s0 < ((a0.getD []).length : Int)))
   (obind (idxO (a0.getD []) s0) fun v15 =>
    obind (idxO (a1.getD []) s0) fun v17 =>
    cond (decide (v15.a = v17.a) && decide (v15.b = v17.b))
     (some (.inl (wrapF .i64 (s0 + 1))))
     (some (.inr (.inl ()))))
   (some (.inr (.inr s0)))
def St73_0 (a0 : Option (List GPair)) (a1 : Option (List GPair)) (s0 : Int) : ASt := ⟨[(0, sl 2 vpair a0, false), (1, sl 2 vpair a1, false), (5, .int .i64 s0, false)], []⟩
def Ex73_0 (a0 : Option (List GPair)) (a1 : Option (List GPair)) : Unit ⊕ Int → AExit × ASt
  | .inl d => (.ret, ⟨[(4, .bool false, false)], []⟩)
  | .inr d => (.exit 0, ⟨[(0, sl 2 vpair a0, false), (1, sl 2 vpair a1, false), (5, .int .i64 d, false), (14, .bool false, false)], []⟩)
theorem b73_0 (a0 : Option (List GPair)) (a1 : Option (List GPair)) (s0 : Int) (r) (h : s73_0 a0 a1 s0 = some r) : stepO pr c73_0 (St73_0 a0 a1) (Ex73_0 a0 a1) s0 r := by
  unfold s73_0 at h
  rcases cond_split h with ⟨h14, h⟩ | ⟨h14, h⟩
  · obtain ⟨v15, h16, h⟩ := obind_some h
    obtain ⟨v17, h18, h⟩ := obind_some h
    rcases cond_split h with ⟨h19, h⟩ | ⟨h19, h⟩
    · cases h
      exact stepO_in (st' := ⟨[(0, sl 2 vpair a0, false), (1, sl 2 vpair a1, false), (5, .int .i64 (wrapF .i64 (s0 + 1)), false)], []⟩) (by simp only [go_sem, seval, c73_0, St73_0, h14, idxR_O h16, idxR_O h18, h19] <;> rfl) (gc_same (Nat.le_refl _))
    · cases h
      exact stepO_out (by simp only [go_sem, seval, c73_0, St73_0, h14, idxR_O h16, idxR_O h18, h19, Ex73_0] <;> rfl)
  · cases h
    exact stepO_out (by simp only [go_sem, seval, c73_0, St73_0, h14, Ex73_0] <;> rfl)
theorem l73_0 (a0 : Option (List GPair)) (a1 : Option (List GPair)) {s0 : Int} {d} (h : itO (s73_0 a0 a1) s0 = some d) : X pr (.loop c73_0) (St73_0 a0 a1 s0) = some (Ex73_0 a0 a1 d) := X_itO (b73_0 a0 a1) (fun d => by rcases d with d|d <;> (intro hh; cases hh)) h
noncomputable def f73 (a0 : Option (List GPair)) (a1 : Option (List GPair)) : Option Bool :=
  cond (decide (((a0.getD []).length : Int) = ((a1.getD []).length : Int)))
   (obind (itO (s73_0 a0 a1) 0) fun d20 => match d20 with
      | .inl d22 =>
        some false
      | .inr d23 =>
        some true)
   (some false)
theorem W73 {a0 : Option (List GPair)} {a1 : Option (List GPair)} {r} (h : f73 a0 a1 = some r) : callIso pr (X pr) 73 [sl 2 vpair a0, sl 2 vpair a1] = some (.bool r, false) := by
  unfold f73 at h
  rcases cond_split h with ⟨h1, h⟩ | ⟨h1, h⟩
  · obtain ⟨d20, h21, h⟩ := obind_some h
    rcases d20 with d22 | d23
    · have wh21 : X pr (.loop c73_0) ⟨[(0, sl 2 vpair a0, false), (1, sl 2 vpair a1, false), (5, .int .i64 0, false)], []⟩ = some (.ret, ⟨[(4, .bool false, false)], []⟩) := l73_0 a0 a1 h21
      have hr : false = r := Option.some.inj h
      subst hr
      have this : ∃ hh, callFn pr (X pr) 73 [sl 2 vpair a0, sl 2 vpair a1] [] = some (.bool false, false, hh) := by
        rw [callFn_at (show pr.fns 73 = some c73 from rfl) (by simp)]
        simp only [go_sem, seval, c73, h1, wh21]
        exact ⟨_, rfl⟩
      obtain ⟨hh, this⟩ := this
      exact callIso_of rfl this (by first | rfl | simp only [go_sem, seval]) (by first | rfl | simp only [go_sem, seval])
    · have wh21 : X pr (.loop c73_0) ⟨[(0, sl 2 vpair a0, false), (1, sl 2 vpair a1, false), (5, .int .i64 0, false)], []⟩ = some (.exit 0, ⟨[(0, sl 2 vpair a0, false), (1, sl 2 vpair a1, false), (5, .int .i64 d23, false), (14, .bool false, false)], []⟩) := l73_0 a0 a1 h21
      have hr : true = r := Option.some.inj h
      subst hr
      have this : ∃ hh, callFn pr (X pr) 73 [sl 2 vpair a0, sl 2 vpair a1] [] = some (.bool true, false, hh) := by
        rw [callFn_at (show pr.fns 73 = some c73 from rfl) (by simp)]
        simp only [go_sem, seval, c73, h1, wh21]
        exact ⟨_, rfl⟩
      obtain ⟨hh, this⟩ := this
      exact callIso_of rfl this (by first | rfl | simp only [go_sem, seval]) (by first | rfl | simp only [go_sem, seval])
  · have hr : false = r := Option.some.inj h
    subst hr
    have this : ∃ hh, callFn pr (X pr) 73 [sl 2 vpair a0, sl 2 vpair a1] [] = some (.bool false, false, hh) := by
      rw [callFn_at (show pr.fns 73 = some c73 from rfl) (by simp)]
      simp only [go_sem, seval, c73, h1]
      exact ⟨_, rfl⟩
    obtain ⟨hh, this⟩ := this
    exact callIso_of rfl this (by first | rfl | simp only [go_sem, seval]) (by first | rfl | simp only [go_sem, seval])
noncomputable def s116_0 (a0 : Option (List Int)) (a1 : Int) (s0 : Int) : Option (Int ⊕ (Int ⊕ Int)) :=
  cond (decide (s0 < ((a0.getD []).length : Int)))
   (obind (idxO (a0.getD []) s0) fun v10 =>
    cond (decide (a1 = v10))
     (some (.inr (.inl s0)))
     (some (.inl (wrapF .i64 (s0 + 1)))))
   (some (.inr (.inr s0)))
def St116_0 (a0 : Option (List Int)) (a1 : Int) (s0 : Int) : ASt := ⟨[(0, sl 1 vint a0, false), (1, .int .i64 a1, false), (7, .int .i64 ((a0.getD []).length : Int), false), (8, .int .i64 s0, false)], []⟩
def Ex116_0 (a0 : Option (List Int)) (a1 : Int) : Int ⊕ Int → AExit × ASt
  | .inl d => (.ret, ⟨[(4, .int .i64 d, false)], []⟩)
  | .inr d => (.exit 0, ⟨[(0, sl 1 vint a0, false), (1, .int .i64 a1, false), (7, .int .i64 ((a0.getD []).length : Int), false), (8, .int .i64 d, false), (9, .bool false, false)], []⟩)
theorem b116_0 (a0 : Option (List Int)) (a1 : Int) (s0 : Int) (r) (h : s116_0 a0 a1 s0 = some r) : stepO pr c116_0 (St116_0 a0 a1) (Ex116_0 a0 a1) s0 r := by
  unfold s116_0 at h
  rcases cond_split h with ⟨h9, h⟩ | ⟨h9, h⟩
  · obtain ⟨v10, h11, h⟩ := obind_some h
    rcases cond_split h with ⟨h12, h⟩ | ⟨h12, h⟩
    · cases h
      exact stepO_out (by simp only [go_sem, seval, c116_0, St116_0, h9, idxR_O h11, h12, Ex116_0] <;> rfl)
    · cases h
      exact stepO_in (st' := ⟨[(0, sl 1 vint a0, false), (1, .int .i64 a1, false), (7, .int .i64 ((a0.getD []).length : Int), false), (8, .int .i64 (wrapF .i64 (s0 + 1)), false)], []⟩) (by simp only [go_sem, seval, c116_0, St116_0, h9, idxR_O h11, h12] <;> rfl) (gc_same (Nat.le_refl _))
  · cases h
    exact stepO_out (by simp only [go_sem, seval, c116_0, St116_0, h9, Ex116_0] <;> rfl)
theorem l116_0 (a0 : Option (List Int)) (a1 : Int) {s0 : Int} {d} (h : itO (s116_0 a0 a1) s0 = some d) : X pr (.loop c116_0) (St116_0 a0 a1 s0) = some (Ex116_0 a0 a1 d) := X_itO (b116_0 a0 a1) (fun d => by rcases d with d|d <;> (intro hh; cases hh)) h
noncomputable def f116 (a0 : Option (List Int)) (a1 : Int) : Option Int :=
  obind (itO (s116_0 a0 a1) 0) fun d13 => match d13 with
    | .inl d15 =>
      some d15
    | .inr d16 =>
      some (-1)
theorem W116 {a0 : Option (List Int)} {a1 : Int} {r} (h : f116 a0 a1 = some r) : callIso pr (X pr) 116 [sl 1 vint a0, .int .i64 a1] = some (.int .i64 r, false) := by
  unfold f116 at h
  obtain ⟨d13, h14, h⟩ := obind_some h
  rcases d13 with d15 | d16
  · have wh14 : X pr (.loop c116_0) ⟨[(0, sl 1 vint a0, false), (1, .int .i64 a1, false), (7, .int .i64 ((a0.getD []).length : Int), false), (8, .int .i64 0, false)], []⟩ = some (.ret, ⟨[(4, .int .i64 d15, false)], []⟩) := l116_0 a0 a1 h14
    have hr : d15 = r := Option.some.inj h
    subst hr
    have this : ∃ hh, callFn pr (X pr) 116 [sl 1 vint a0, .int .i64 a1] [] = some (.int .i64 d15, false, hh) := by
      rw [callFn_at (show pr.fns 116 = some c116 from rfl) (by simp)]
      simp only [go_sem, seval, c116, wh14]
      exact ⟨_, rfl⟩
    obtain ⟨hh, this⟩ := this
    exact callIso_of rfl this (by first | rfl | simp only [go_sem, seval]) (by first | rfl | simp only [go_sem, seval])
  · have wh14 : X pr (.loop c116_0) ⟨[(0, sl 1 vint a0, false), (1, .int .i64 a1, false), (7, .int .i64 ((a0.getD []).length : Int), false), (8, .int .i64 0, false)], []⟩ = some (.exit 0, ⟨[(0, sl 1 vint a0, false), (1, .int .i64 a1, false), (7, .int .i64 ((a0.getD []).length : Int), false), (8, .int .i64 d16, false), (9, .bool false, false)], []⟩) := l116_0 a0 a1 h14
    have hr : (-1) = r := Option.some.inj h
    subst hr
    have this : ∃ hh, callFn pr (X pr) 116 [sl 1 vint a0, .int .i64 a1] [] = some (.int .i64 (-1), false, hh) := by
      rw [callFn_at (show pr.fns 116 = some c116 from rfl) (by simp)]
      simp only [go_sem, seval, c116, wh14]
      exact ⟨_, rfl⟩
    obtain ⟨hh, this⟩ := this
    exact callIso_of rfl this (by first | rfl | simp only [go_sem, seval]) (by first | rfl | simp only [go_sem, seval])
noncomputable def s124_0 (a0 : Option (List Int)) (a1 : Int) (s0 : Int) : Option (Int ⊕ (Unit ⊕ Int)) :=
  cond (decide (s0 < ((a0.getD []).length : Int)))
   (obind (idxO (a0.getD []) s0) fun v10 =>
    cond (decide (v10 = a1))
     (some (.inr (.inl ())))
     (some (.inl (wrapF .i64 (s0 + 1)))))
   (some (.inr (.inr s0)))
def St124_0 (a0 : Option (List Int)) (a1 : Int) (s0 : Int) : ASt := ⟨[(0, sl 1 vint a0, false), (1, .int .i64 a1, false), (5, .int .i64 s0, false)], []⟩
def Ex124_0 (a0 : Option (List Int)) (a1 : Int) : Unit ⊕ Int → AExit × ASt
  | .inl d => (.ret, ⟨[(4, .bool true, false)], []⟩)
  | .inr d => (.exit 0, ⟨[(0, sl 1 vint a0, false), (1, .int .i64 a1, false), (5, .int .i64 d, false), (9, .bool false, false)], []⟩)
theorem b124_0 (a0 : Option (List Int)) (a1 : Int) (s0 : Int) (r) (h : s124_0 a0 a1 s0 = some r) : stepO pr c124_0 (St124_0 a0 a1) (Ex124_0 a0 a1) s0 r := by
  unfold s124_0 at h
  rcases cond_split h with ⟨h9, h⟩ | ⟨h9, h⟩
  · obtain ⟨v10, h11, h⟩ := obind_some h
    rcases cond_split h with ⟨h12, h⟩ | ⟨h12, h⟩
    · cases h
      exact stepO_out (by simp only [go_sem, seval, c124_0, St124_0, h9, idxR_O h11, h12, Ex124_0] <;> rfl)
    · cases h
      exact stepO_in (st' := ⟨[(0, sl 1 vint a0, false), (1, .int .i64 a1, false), (5, .int .i64 (wrapF .i64 (s0 + 1)), false)], []⟩) (by simp only [go_sem, seval, c124_0, St124_0, h9, idxR_O h11, h12] <;> rfl) (gc_same (Nat.le_refl _))
  · cases h
    exact stepO_out (by simp only [go_sem, seval, c124_0, St124_0, h9, Ex124_0] <;> rfl)
theorem l124_0 (a0 : Option (List Int)) (a1 : Int) {s0 : Int} {d} (h : itO (s124_0 a0 a1) s0 = some d) : X pr (.loop c124_0) (St124_0 a0 a1 s0) = some (Ex124_0 a0 a1 d) := X_itO (b124_0 a0 a1) (fun d => by rcases d with d|d <;> (intro hh; cases hh)) h
noncomputable def f124 (a0 : Option (List Int)) (a1 : Int) : Option Bool :=
  obind (itO (s124_0 a0 a1) 0) fun d13 => match d13 with
    | .inl d15 =>
      some true
    | .inr d16 =>
      some false
theorem W124 {a0 : Option (List Int)} {a1 : Int} {r} (h : f124 a0 a1 = some r) : callIso pr (X pr) 124 [sl 1 vint a0, .int .i64 a1] = some (.bool r, false) := by
  unfold f124 at h
  obtain ⟨d13, h14, h⟩ := obind_some h
  rcases d13 with d15 | d16
  · have wh14 : X pr (.loop c124_0) ⟨[(0, sl 1 vint a0, false), (1, .int .i64 a1, false), (5, .int .i64 0, false)], []⟩ = some (.ret, ⟨[(4, .bool true, false)], []⟩) := l124_0 a0 a1 h14
    have hr : true = r := Option.some.inj h
    subst hr
    have this : ∃ hh, callFn pr (X pr) 124 [sl 1 vint a0, .int .i64 a1] [] = some (.bool true, false, hh) := by
      rw [callFn_at (show pr.fns 124 = some c124 from rfl) (by simp)]
      simp only [go_sem, seval, c124, wh14]
      exact ⟨_, rfl⟩
    obtain ⟨hh, this⟩ := this
    exact callIso_of rfl this (by first | rfl | simp only [go_sem, seval]) (by first | rfl | simp only [go_sem, seval])
  · have wh14 : X pr (.loop c124_0) ⟨[(0, sl 1 vint a0, false), (1, .int .i64 a1, false), (5, .int .i64 0, false)], []⟩ = some (.exit 0, ⟨[(0, sl 1 vint a0, false), (1, .int .i64 a1, false), (5, .int .i64 d16, false), (9, .bool false, false)], []⟩) := l124_0 a0 a1 h14
    have hr : false = r := Option.some.inj h
    subst hr
    have this : ∃ hh, callFn pr (X pr) 124 [sl 1 vint a0, .int .i64 a1] [] = some (.bool false, false, hh) := by
      rw [callFn_at (show pr.fns 124 = some c124 from rfl) (by simp)]
      simp only [go_sem, seval, c124, wh14]
      exact ⟨_, rfl⟩
    obtain ⟨hh, this⟩ := this
    exact callIso_of rfl this (by first | rfl | simp only [go_sem, seval]) (by first | rfl | simp only [go_sem, seval])
noncomputable def s70_0 (a0 : Option (List GUnit)) (a1 : Option (List GPair)) (s0 : (Option (List Int)) × Int × Bool) : Option (((Option (List Int)) × Int × Bool) ⊕ (Int ⊕ ((Option (List Int)) × Bool × Int))) :=
  cond (decide (s0.2.1 < ((a1.getD []).length : Int)))
   (obind (idxO (a1.getD []) s0.2.1) fun v60 =>
    obind (E23 v60.a 0 (wrapF .i64 (((a0.getD []).length : Int) - 1))) fun v62 =>
    cond (decide (v62 = 0))
     (obind (E23 v60.b 0 (wrapF .i64 (((a0.getD []).length : Int) - 1))) fun v65 =>
      cond (decide (v65 = 0))
       (cond (decide (v60.b ≤ v60.a))
         (some (.inr (.inl 11)))
         (cond (decide (0 < s0.2.1))
           (obind (idxO (a1.getD []) (wrapF .i64 (s0.2.1 - 1))) fun v70 =>
            cond (decide (v60.a ≤ v70.a))
             (some (.inr (.inl 11)))
             (obind (f124 s0.1 v60.a) fun v73 =>
              cond v73
               (some (.inr (.inl 9)))
               (obind (f124 s0.1 v60.b) fun v76 =>
                cond v76
                 (some (.inr (.inl 9)))
                 (cond s0.2.2
                   (obind (apO s0.1 [v60.a, v60.b]) fun v80 =>
                    some (.inl (v80, wrapF .i64 (s0.2.1 + 1), true)))
                   (cond s0.1.isNone
                     (obind (apO s0.1 [v60.a, v60.b]) fun v83 =>
                      some (.inl (v83, wrapF .i64 (s0.2.1 + 1), true)))
                     (none))))))
           (obind (f124 s0.1 v60.a) fun v85 =>
            cond v85
             (some (.inr (.inl 9)))
             (obind (f124 s0.1 v60.b) fun v88 =>
              cond v88
               (some (.inr (.inl 9)))
               (cond s0.2.2
                 (obind (apO s0.1 [v60.a, v60.b]) fun v92 =>
                  some (.inl (v92, wrapF .i64 (s0.2.1 + 1), true)))
                 (cond s0.1.isNone
                   (obind (apO s0.1 [v60.a, v60.b]) fun v95 =>
                    some (.inl (v95, wrapF .i64 (s0.2.1 + 1), true)))
                   (none)))))))
       (some (.inr (.inl 10))))
     (some (.inr (.inl 10))))
   (some (.inr (.inr (s0.1, s0.2.2, s0.2.1))))
def St70_0 (a0 : Option (List GUnit)) (a1 : Option (List GPair)) (s0 : (Option (List Int)) × Int × Bool) : ASt := ⟨[(0, sl 2 vunit a0, false), (1, sl 2 vpair a1, false), (5, sl 1 vint s0.1, s0.2.2), (6, .int .i64 s0.2.1, false)], []⟩
def Ex70_0 (a0 : Option (List GUnit)) (a1 : Option (List GPair)) : Int ⊕ ((Option (List Int)) × Bool × Int) → AExit × ASt
  | .inl d => (.ret, ⟨[(4, .int .i64 d, false)], []⟩)
  | .inr d => (.exit 0, ⟨[(0, sl 2 vunit a0, false), (1, sl 2 vpair a1, false), (5, sl 1 vint d.1, d.2.1), (6, .int .i64 d.2.2, false), (22, .bool false, false)], []⟩)
theorem b70_0 (a0 : Option (List GUnit)) (a1 : Option (List GPair)) (s0 : (Option (List Int)) × Int × Bool) (r) (h : s70_0 a0 a1 s0 = some r) : stepO pr c70_0 (St70_0 a0 a1) (Ex70_0 a0 a1) s0 r := by
  unfold s70_0 at h
  rcases cond_split h with ⟨h59, h⟩ | ⟨h59, h⟩
  · obtain ⟨v60, h61, h⟩ := obind_some h
    obtain ⟨v62, h63, h⟩ := obind_some h
    have wh63 : callIso pr (X pr) 23 [.int .i64 v60.a, .int .i64 0, .int .i64 (wrapF .i64 (((a0.getD []).length : Int) - 1))] = some (.int .i64 v62, false) := WE23 h63
    rcases cond_split h with ⟨h64, h⟩ | ⟨h64, h⟩
    · obtain ⟨v65, h66, h⟩ := obind_some h
      have wh66 : callIso pr (X pr) 23 [.int .i64 v60.b, .int .i64 0, .int .i64 (wrapF .i64 (((a0.getD []).length : Int) - 1))] = some (.int .i64 v65, false) := WE23 h66
      rcases cond_split h with ⟨h67, h⟩ | ⟨h67, h⟩
      · rcases cond_split h with ⟨h68, h⟩ | ⟨h68, h⟩
        · cases h
          exact stepO_out (by simp only [go_sem, seval, c70_0, St70_0, h59, idxR_O h61, wh63, h64, wh66, h67, h68, Ex70_0] <;> rfl)
        · rcases cond_split h with ⟨h69, h⟩ | ⟨h69, h⟩
          · obtain ⟨v70, h71, h⟩ := obind_some h
            rcases cond_split h with ⟨h72, h⟩ | ⟨h72, h⟩
            · cases h
              exact stepO_out (by simp only [go_sem, seval, c70_0, St70_0, h59, idxR_O h61, wh63, h64, wh66, h67, h68, h69, idxR_O h71, h72, Ex70_0] <;> rfl)
            · obtain ⟨v73, h74, h⟩ := obind_some h
              have wh74 : callIso pr (X pr) 124 [sl 1 vint s0.1, .int .i64 v60.a] = some (.bool v73, false) := W124 h74
              rcases cond_split h with ⟨h75, h⟩ | ⟨h75, h⟩
              · cases h
                exact stepO_out (by simp only [go_sem, seval, c70_0, St70_0, h59, idxR_O h61, wh63, h64, wh66, h67, h68, h69, idxR_O h71, h72, wh74, h75, Ex70_0] <;> rfl)
              · obtain ⟨v76, h77, h⟩ := obind_some h
                have wh77 : callIso pr (X pr) 124 [sl 1 vint s0.1, .int .i64 v60.b] = some (.bool v76, false) := W124 h77
                rcases cond_split h with ⟨h78, h⟩ | ⟨h78, h⟩
                · cases h
                  exact stepO_out (by simp only [go_sem, seval, c70_0, St70_0, h59, idxR_O h61, wh63, h64, wh66, h67, h68, h69, idxR_O h71, h72, wh74, h75, wh77, h78, Ex70_0] <;> rfl)
                · rcases cond_split h with ⟨h79, h⟩ | ⟨h79, h⟩
                  · obtain ⟨v80, h81, h⟩ := obind_some h
                    cases h
                    exact stepO_in (st' := ⟨[(0, sl 2 vunit a0, false), (1, sl 2 vpair a1, false), (5, sl 1 vint v80, true), (6, .int .i64 (wrapF .i64 (s0.2.1 + 1)), false)], []⟩) (by simp only [go_sem, seval, c70_0, St70_0, h59, idxR_O h61, wh63, h64, wh66, h67, h68, h69, idxR_O h71, h72, wh74, h75, wh77, h78, h79, app_vint2_O h81] <;> rfl) (gc_same (Nat.le_refl _))
                  · rcases cond_split h with ⟨h82, h⟩ | ⟨h82, h⟩
                    · obtain ⟨v83, h84, h⟩ := obind_some h
                      cases h
                      exact stepO_in (st' := ⟨[(0, sl 2 vunit a0, false), (1, sl 2 vpair a1, false), (5, sl 1 vint v83, true), (6, .int .i64 (wrapF .i64 (s0.2.1 + 1)), false)], []⟩) (by simp only [go_sem, seval, c70_0, St70_0, h59, idxR_O h61, wh63, h64, wh66, h67, h68, h69, idxR_O h71, h72, wh74, h75, wh77, h78, h79, h82, app_vint2_N h84 h82] <;> rfl) (gc_same (Nat.le_refl _))
                    · cases h
          · obtain ⟨v85, h86, h⟩ := obind_some h
            have wh86 : callIso pr (X pr) 124 [sl 1 vint s0.1, .int .i64 v60.a] = some (.bool v85, false) := W124 h86
            rcases cond_split h with ⟨h87, h⟩ | ⟨h87, h⟩
            · cases h
              exact stepO_out (by simp only [go_sem, seval, c70_0, St70_0, h59, idxR_O h61, wh63, h64, wh66, h67, h68, h69, wh86, h87, Ex70_0] <;> rfl)
            · obtain ⟨v88, h89, h⟩ := obind_some h
              have wh89 : callIso pr (X pr) 124 [sl 1 vint s0.1, .int .i64 v60.b] = some (.bool v88, false) := W124 h89
              rcases cond_split h with ⟨h90, h⟩ | ⟨h90, h⟩
              · cases h
                exact stepO_out (by simp only [go_sem, seval, c70_0, St70_0, h59, idxR_O h61, wh63, h64, wh66, h67, h68, h69, wh86, h87, wh89, h90, Ex70_0] <;> rfl)
              · rcases cond_split h with ⟨h91, h⟩ | ⟨h91, h⟩
                · obtain ⟨v92, h93, h⟩ := obind_some h
                  cases h
                  exact stepO_in (st' := ⟨[(0, sl 2 vunit a0, false), (1, sl 2 vpair a1, false), (5, sl 1 vint v92, true), (6, .int .i64 (wrapF .i64 (s0.2.1 + 1)), false)], []⟩) (by simp only [go_sem, seval, c70_0, St70_0, h59, idxR_O h61, wh63, h64, wh66, h67, h68, h69, wh86, h87, wh89, h90, h91, app_vint2_O h93] <;> rfl) (gc_same (Nat.le_refl _))
                · rcases cond_split h with ⟨h94, h⟩ | ⟨h94, h⟩
                  · obtain ⟨v95, h96, h⟩ := obind_some h
                    cases h
                    exact stepO_in (st' := ⟨[(0, sl 2 vunit a0, false), (1, sl 2 vpair a1, false), (5, sl 1 vint v95, true), (6, .int .i64 (wrapF .i64 (s0.2.1 + 1)), false)], []⟩) (by simp only [go_sem, seval, c70_0, St70_0, h59, idxR_O h61, wh63, h64, wh66, h67, h68, h69, wh86, h87, wh89, h90, h91, h94, app_vint2_N h96 h94] <;> rfl) (gc_same (Nat.le_refl _))
                  · cases h
      · cases h
        exact stepO_out (by simp only [go_sem, seval, c70_0, St70_0, h59, idxR_O h61, wh63, h64, wh66, h67, Ex70_0] <;> rfl)
    · cases h
      exact stepO_out (by simp only [go_sem, seval, c70_0, St70_0, h59, idxR_O h61, wh63, h64, Ex70_0] <;> rfl)
  · cases h
    exact stepO_out (by simp only [go_sem, seval, c70_0, St70_0, h59, Ex70_0] <;> rfl)
theorem l70_0 (a0 : Option (List GUnit)) (a1 : Option (List GPair)) {s0 : (Option (List Int)) × Int × Bool} {d} (h : itO (s70_0 a0 a1) s0 = some d) : X pr (.loop c70_0) (St70_0 a0 a1 s0) = some (Ex70_0 a0 a1 d) := X_itO (b70_0 a0 a1) (fun d => by rcases d with d|d <;> (intro hh; cases hh)) h
noncomputable def f70 (a0 : Option (List GUnit)) (a1 : Option (List GPair)) : Option Int :=
  obind (remO ((a0.getD []).length : Int) 2) fun v1 =>
  cond (decide (v1 = 0))
   (cond (decide ((wrapF .i64 (2 * ((a1.getD []).length : Int))) = ((a0.getD []).length : Int)))
     (obind (itO (s70_0 a0 a1) (none, 0, false)) fun d97 => match d97 with
        | .inl d99 =>
          some d99
        | .inr d100 =>
          some 0)
     (some 2))
   (some 35)
theorem W70 {a0 : Option (List GUnit)} {a1 : Option (List GPair)} {r} (h : f70 a0 a1 = some r) : callIso pr (X pr) 70 [sl 2 vunit a0, sl 2 vpair a1] = some (.int .i64 r, false) := by
  unfold f70 at h
  obtain ⟨v1, h2, h⟩ := obind_some h
  rcases cond_split h with ⟨h3, h⟩ | ⟨h3, h⟩
  · rcases cond_split h with ⟨h4, h⟩ | ⟨h4, h⟩
    · obtain ⟨d97, h98, h⟩ := obind_some h
      rcases d97 with d99 | d100
      · have wh98 : X pr (.loop c70_0) ⟨[(0, sl 2 vunit a0, false), (1, sl 2 vpair a1, false), (5, .list true 0 [], false), (6, .int .i64 0, false)], []⟩ = some (.ret, ⟨[(4, .int .i64 d99, false)], []⟩) := l70_0 a0 a1 h98
        have hr : d99 = r := Option.some.inj h
        subst hr
        have this : ∃ hh, callFn pr (X pr) 70 [sl 2 vunit a0, sl 2 vpair a1] [] = some (.int .i64 d99, false, hh) := by
          rw [callFn_at (show pr.fns 70 = some c70 from rfl) (by simp)]
          simp only [go_sem, seval, c70, b_rem_O h2, h3, h4, wh98]
          exact ⟨_, rfl⟩
        obtain ⟨hh, this⟩ := this
        exact callIso_of rfl this (by first | rfl | simp only [go_sem, seval]) (by first | rfl | simp only [go_sem, seval])
      · have wh98 : X pr (.loop c70_0) ⟨[(0, sl 2 vunit a0, false), (1, sl 2 vpair a1, false), (5, .list true 0 [], false), (6, .int .i64 0, false)], []⟩ = some (.exit 0, ⟨[(0, sl 2 vunit a0, false), (1, sl 2 vpair a1, false), (5, sl 1 vint d100.1, d100.2.1), (6, .int .i64 d100.2.2, false), (22, .bool false, false)], []⟩) := l70_0 a0 a1 h98
        have hr : 0 = r := Option.some.inj h
        subst hr
        have this : ∃ hh, callFn pr (X pr) 70 [sl 2 vunit a0, sl 2 vpair a1] [] = some (.int .i64 0, false, hh) := by
          rw [callFn_at (show pr.fns 70 = some c70 from rfl) (by simp)]
          simp only [go_sem, seval, c70, b_rem_O h2, h3, h4, wh98]
          exact ⟨_, rfl⟩
        obtain ⟨hh, this⟩ := this
        exact callIso_of rfl this (by first | rfl | simp only [go_sem, seval]) (by first | rfl | simp only [go_sem, seval])
    · have hr : 2 = r := Option.some.inj h
      subst hr
      have this : ∃ hh, callFn pr (X pr) 70 [sl 2 vunit a0, sl 2 vpair a1] [] = some (.int .i64 2, false, hh) := by
        rw [callFn_at (show pr.fns 70 = some c70 from rfl) (by simp)]
        simp only [go_sem, seval, c70, b_rem_O h2, h3, h4]
        exact ⟨_, rfl⟩
      obtain ⟨hh, this⟩ := this
      exact callIso_of rfl this (by first | rfl | simp only [go_sem, seval]) (by first | rfl | simp only [go_sem, seval])
  · have hr : 35 = r := Option.some.inj h
    subst hr
    have this : ∃ hh, callFn pr (X pr) 70 [sl 2 vunit a0, sl 2 vpair a1] [] = some (.int .i64 35, false, hh) := by
      rw [callFn_at (show pr.fns 70 = some c70 from rfl) (by simp)]
      simp only [go_sem, seval, c70, b_rem_O h2, h3]
      exact ⟨_, rfl⟩
    obtain ⟨hh, this⟩ := this
    exact callIso_of rfl this (by first | rfl | simp only [go_sem, seval]) (by first | rfl | simp only [go_sem, seval])
end Go.Z
