/-
  LineProofs: the reference's functions, the checks: functions that mirror the runs, and the runs (printed by walk.py).
-/
import Derived.Test.YtbkpojiedkhfkaaGreatR2
set_option linter.unusedVariables false
set_option linter.unusedSimpArgs false
set_option maxRecDepth 100000
set_option linter.unusedSimpArgs false
set_option linter.unusedVariables false
set_option maxHeartbeats 4000000
namespace Go.Z
open Go Go.Abs
noncomputable def f117 (a0 : Int) : Option Int :=
  obind (E23 a0 1 200001) fun v1 =>
  some v1
theorem W117 {a0 : Int} {r} (h : f117 a0 = some r) : callIso pr (X pr) 117 [.int .i64 a0] = some (.int .i64 r, false) := by
  unfold f117 at h
  obtain ⟨v1, h2, h⟩ := obind_some h
  have wh2 : callIso pr (X pr) 88 [.int .i64 a0, .int .i64 1, .int .i64 200001] = some (.int .i64 v1, false) := WE88 h2
  have hr : v1 = r := Option.some.inj h
  subst hr
  have this : ∃ hh, callFn pr (X pr) 117 [.int .i64 a0] [] = some (.int .i64 v1, false, hh) := by
    rw [callFn_at (show pr.fns 117 = some c117 from rfl) (by simp)]
    simp only [go_sem, seval, c117, wh2]
    exact ⟨_, rfl⟩
  obtain ⟨hh, this⟩ := this
  exact callIso_of rfl this (by first | rfl | simp only [go_sem, seval]) (by first | rfl | simp only [go_sem, seval])
noncomputable def f63 (a0 : Int) : Option Int :=
  obind (E23 a0 1 200001) fun v1 =>
  some v1
theorem W63 {a0 : Int} {r} (h : f63 a0 = some r) : callIso pr (X pr) 63 [.int .i64 a0] = some (.int .i64 r, false) := by
  unfold f63 at h
  obtain ⟨v1, h2, h⟩ := obind_some h
  have wh2 : callIso pr (X pr) 23 [.int .i64 a0, .int .i64 1, .int .i64 200001] = some (.int .i64 v1, false) := WE23 h2
  have hr : v1 = r := Option.some.inj h
  subst hr
  have this : ∃ hh, callFn pr (X pr) 63 [.int .i64 a0] [] = some (.int .i64 v1, false, hh) := by
    rw [callFn_at (show pr.fns 63 = some c63 from rfl) (by simp)]
    simp only [go_sem, seval, c63, wh2]
    exact ⟨_, rfl⟩
  obtain ⟨hh, this⟩ := this
  exact callIso_of rfl this (by first | rfl | simp only [go_sem, seval]) (by first | rfl | simp only [go_sem, seval])
noncomputable def f143 (a0 : Option (List Int)) (a1 : Int) : Option Bool :=
  obind (f116 a0 a1) fun v1 =>
  some (decide (0 ≤ v1))
theorem W143 {a0 : Option (List Int)} {a1 : Int} {r} (h : f143 a0 a1 = some r) : callIso pr (X pr) 143 [sl 1 vint a0, .int .i64 a1] = some (.bool r, false) := by
  unfold f143 at h
  obtain ⟨v1, h2, h⟩ := obind_some h
  have wh2 : callIso pr (X pr) 116 [sl 1 vint a0, .int .i64 a1] = some (.int .i64 v1, false) := W116 h2
  have hr : decide (0 ≤ v1) = r := Option.some.inj h
  subst hr
  have this : ∃ hh, callFn pr (X pr) 143 [sl 1 vint a0, .int .i64 a1] [] = some (.bool (decide (0 ≤ v1)), false, hh) := by
    rw [callFn_at (show pr.fns 143 = some c143 from rfl) (by simp)]
    simp only [go_sem, seval, c143, wh2]
    exact ⟨_, rfl⟩
  obtain ⟨hh, this⟩ := this
  exact callIso_of rfl this (by first | rfl | simp only [go_sem, seval]) (by first | rfl | simp only [go_sem, seval])
noncomputable def s121_2 (a0 : Option (List GUnit)) (a1 : Int) (s0 : (Option (List Int)) × Int × Int) (s1 : (Option (List Int)) × (Option (List Int)) × Int) (s2 : (Option (List Int)) × (Option (List Int)) × Int) : Option (((Option (List Int)) × (Option (List Int)) × Int) ⊕ (((Option (List Int)) × (Option (List Int)) × Int))) :=
  cond (decide (s2.2.2 < ((a0.getD []).length : Int)))
   (obind (f124 s2.1 s2.2.2) fun v483 =>
    cond v483
     (some (.inl (s2.1, s2.2.1, wrapF .i64 (s2.2.2 + 1))))
     (obind (idxO (s2.2.1.getD []) s1.2.2) fun v486 =>
      obind (idxO (a0.getD []) v486) fun v488 =>
      obind (idxO (a0.getD []) s2.2.2) fun v490 =>
      obind (f68 v488 v490) fun v492 =>
      cond (decide (v492 < a1))
       (obind (apO s2.2.1 [s2.2.2]) fun v495 =>
        obind (apO s2.1 [s2.2.2]) fun v497 =>
        some (.inl (v497, v495, wrapF .i64 (s2.2.2 + 1))))
       (some (.inl (s2.1, s2.2.1, wrapF .i64 (s2.2.2 + 1))))))
   (some (.inr (s2.1, s2.2.1, s2.2.2)))
def St121_2 (a0 : Option (List GUnit)) (a1 : Int) (s0 : (Option (List Int)) × Int × Int) (s1 : (Option (List Int)) × (Option (List Int)) × Int) (s2 : (Option (List Int)) × (Option (List Int)) × Int) : ASt := ⟨[(0, sl 2 vunit a0, false), (1, .int .i64 a1, false), (7, sl 1 vint s2.1, true), (8, .int .i64 s0.2.1, false), (9, .int .i64 s0.2.2, false), (10, sl 1 vint s2.2.1, true), (11, .int .i64 s1.2.2, false), (12, .int .i64 s2.2.2, false)], []⟩
def Ex121_2 (a0 : Option (List GUnit)) (a1 : Int) (s0 : (Option (List Int)) × Int × Int) (s1 : (Option (List Int)) × (Option (List Int)) × Int) (d : ((Option (List Int)) × (Option (List Int)) × Int)) : AExit × ASt := (.exit 4, ⟨[(0, sl 2 vunit a0, false), (1, .int .i64 a1, false), (7, sl 1 vint d.1, true), (8, .int .i64 s0.2.1, false), (9, .int .i64 s0.2.2, false), (10, sl 1 vint d.2.1, true), (11, .int .i64 s1.2.2, false), (12, .int .i64 d.2.2, false), (40, .bool false, false)], []⟩)
theorem b121_2 (a0 : Option (List GUnit)) (a1 : Int) (s0 : (Option (List Int)) × Int × Int) (s1 : (Option (List Int)) × (Option (List Int)) × Int) (s2 : (Option (List Int)) × (Option (List Int)) × Int) (r) (h : s121_2 a0 a1 s0 s1 s2 = some r) : stepO pr c121_2 (St121_2 a0 a1 s0 s1) (Ex121_2 a0 a1 s0 s1) s2 r := by
  unfold s121_2 at h
  rcases cond_split h with ⟨h482, h⟩ | ⟨h482, h⟩
  · obtain ⟨v483, h484, h⟩ := obind_some h
    have wh484 : callIso pr (X pr) 124 [sl 1 vint s2.1, .int .i64 s2.2.2] = some (.bool v483, false) := W124 h484
    rcases cond_split h with ⟨h485, h⟩ | ⟨h485, h⟩
    · cases h
      exact stepO_in (st' := ⟨[(0, sl 2 vunit a0, false), (1, .int .i64 a1, false), (7, sl 1 vint s2.1, true), (8, .int .i64 s0.2.1, false), (9, .int .i64 s0.2.2, false), (10, sl 1 vint s2.2.1, true), (11, .int .i64 s1.2.2, false), (12, .int .i64 (wrapF .i64 (s2.2.2 + 1)), false)], []⟩) (by simp only [go_sem, seval, c121_2, St121_2, h482, wh484, h485] <;> rfl) (gc_same (Nat.le_refl _))
    · obtain ⟨v486, h487, h⟩ := obind_some h
      obtain ⟨v488, h489, h⟩ := obind_some h
      obtain ⟨v490, h491, h⟩ := obind_some h
      obtain ⟨v492, h493, h⟩ := obind_some h
      have wh493 : callIso pr (X pr) 68 [.agg [.str v488.serial, sl 1 vint v488.values], .agg [.str v490.serial, sl 1 vint v490.values]] = some (.int .i64 v492, false) := W68 h493
      rcases cond_split h with ⟨h494, h⟩ | ⟨h494, h⟩
      · obtain ⟨v495, h496, h⟩ := obind_some h
        obtain ⟨v497, h498, h⟩ := obind_some h
        cases h
        exact stepO_in (st' := ⟨[(0, sl 2 vunit a0, false), (1, .int .i64 a1, false), (7, sl 1 vint v497, true), (8, .int .i64 s0.2.1, false), (9, .int .i64 s0.2.2, false), (10, sl 1 vint v495, true), (11, .int .i64 s1.2.2, false), (12, .int .i64 (wrapF .i64 (s2.2.2 + 1)), false)], []⟩) (by simp only [go_sem, seval, c121_2, St121_2, h482, wh484, h485, idxR_O h487, idxR_O h489, idxR_O h491, wh493, h494, app_vint_O h496, app_vint_O h498] <;> rfl) (gc_same (Nat.le_refl _))
      · cases h
        exact stepO_in (st' := ⟨[(0, sl 2 vunit a0, false), (1, .int .i64 a1, false), (7, sl 1 vint s2.1, true), (8, .int .i64 s0.2.1, false), (9, .int .i64 s0.2.2, false), (10, sl 1 vint s2.2.1, true), (11, .int .i64 s1.2.2, false), (12, .int .i64 (wrapF .i64 (s2.2.2 + 1)), false)], []⟩) (by simp only [go_sem, seval, c121_2, St121_2, h482, wh484, h485, idxR_O h487, idxR_O h489, idxR_O h491, wh493, h494] <;> rfl) (gc_same (Nat.le_refl _))
  · cases h
    exact stepO_out (by simp only [go_sem, seval, c121_2, St121_2, h482, Ex121_2] <;> rfl)
theorem l121_2 (a0 : Option (List GUnit)) (a1 : Int) (s0 : (Option (List Int)) × Int × Int) (s1 : (Option (List Int)) × (Option (List Int)) × Int) {s2 : (Option (List Int)) × (Option (List Int)) × Int} {d} (h : itO (s121_2 a0 a1 s0 s1) s2 = some d) : X pr (.loop c121_2) (St121_2 a0 a1 s0 s1 s2) = some (Ex121_2 a0 a1 s0 s1 d) := X_itO (b121_2 a0 a1 s0 s1) (fun d hh => by cases hh) h
noncomputable def s121_1 (a0 : Option (List GUnit)) (a1 : Int) (s0 : (Option (List Int)) × Int × Int) (s1 : (Option (List Int)) × (Option (List Int)) × Int) : Option (((Option (List Int)) × (Option (List Int)) × Int) ⊕ (((Option (List Int)) × (Option (List Int)) × Int))) :=
  cond (decide (s1.2.2 < ((s1.2.1.getD []).length : Int)))
   (obind (itO (s121_2 a0 a1 s0 s1) (s1.1, s1.2.1, 0)) fun d499 =>
    some (.inl (d499.1, d499.2.1, wrapF .i64 (s1.2.2 + 1))))
   (some (.inr (s1.1, s1.2.1, s1.2.2)))
def St121_1 (a0 : Option (List GUnit)) (a1 : Int) (s0 : (Option (List Int)) × Int × Int) (s1 : (Option (List Int)) × (Option (List Int)) × Int) : ASt := ⟨[(0, sl 2 vunit a0, false), (1, .int .i64 a1, false), (7, sl 1 vint s1.1, true), (8, .int .i64 s0.2.1, false), (9, .int .i64 s0.2.2, false), (10, sl 1 vint s1.2.1, true), (11, .int .i64 s1.2.2, false)], []⟩
def Ex121_1 (a0 : Option (List GUnit)) (a1 : Int) (s0 : (Option (List Int)) × Int × Int) (d : ((Option (List Int)) × (Option (List Int)) × Int)) : AExit × ASt := (.exit 2, ⟨[(0, sl 2 vunit a0, false), (1, .int .i64 a1, false), (7, sl 1 vint d.1, true), (8, .int .i64 s0.2.1, false), (9, .int .i64 s0.2.2, false), (10, sl 1 vint d.2.1, true), (11, .int .i64 d.2.2, false), (34, .bool false, false)], []⟩)
theorem b121_1 (a0 : Option (List GUnit)) (a1 : Int) (s0 : (Option (List Int)) × Int × Int) (s1 : (Option (List Int)) × (Option (List Int)) × Int) (r) (h : s121_1 a0 a1 s0 s1 = some r) : stepO pr c121_1 (St121_1 a0 a1 s0) (Ex121_1 a0 a1 s0) s1 r := by
  unfold s121_1 at h
  rcases cond_split h with ⟨h447, h⟩ | ⟨h447, h⟩
  · obtain ⟨d499, h500, h⟩ := obind_some h
    have wh500 : X pr (.loop c121_2) ⟨[(0, sl 2 vunit a0, false), (1, .int .i64 a1, false), (7, sl 1 vint s1.1, true), (8, .int .i64 s0.2.1, false), (9, .int .i64 s0.2.2, false), (10, sl 1 vint s1.2.1, true), (11, .int .i64 s1.2.2, false), (12, .int .i64 0, false)], []⟩ = some (.exit 4, ⟨[(0, sl 2 vunit a0, false), (1, .int .i64 a1, false), (7, sl 1 vint d499.1, true), (8, .int .i64 s0.2.1, false), (9, .int .i64 s0.2.2, false), (10, sl 1 vint d499.2.1, true), (11, .int .i64 s1.2.2, false), (12, .int .i64 d499.2.2, false), (40, .bool false, false)], []⟩) := l121_2 a0 a1 s0 s1 h500
    cases h
    exact stepO_in (st' := ⟨[(0, sl 2 vunit a0, false), (1, .int .i64 a1, false), (7, sl 1 vint d499.1, true), (8, .int .i64 s0.2.1, false), (9, .int .i64 s0.2.2, false), (10, sl 1 vint d499.2.1, true), (11, .int .i64 (wrapF .i64 (s1.2.2 + 1)), false)], []⟩) (by simp only [go_sem, seval, c121_1, St121_1, h447, wh500] <;> rfl) (gc_same (Nat.le_refl _))
  · cases h
    exact stepO_out (by simp only [go_sem, seval, c121_1, St121_1, h447, Ex121_1] <;> rfl)
theorem l121_1 (a0 : Option (List GUnit)) (a1 : Int) (s0 : (Option (List Int)) × Int × Int) {s1 : (Option (List Int)) × (Option (List Int)) × Int} {d} (h : itO (s121_1 a0 a1 s0) s1 = some d) : X pr (.loop c121_1) (St121_1 a0 a1 s0 s1) = some (Ex121_1 a0 a1 s0 d) := X_itO (b121_1 a0 a1 s0) (fun d hh => by cases hh) h
noncomputable def s121_0 (a0 : Option (List GUnit)) (a1 : Int) (s0 : (Option (List Int)) × Int × Int) : Option (((Option (List Int)) × Int × Int) ⊕ (((Option (List Int)) × Int × Int))) :=
  cond (decide (s0.2.2 < ((a0.getD []).length : Int)))
   (obind (f124 s0.1 s0.2.2) fun v338 =>
    cond v338
     (some (.inl (s0.1, s0.2.1, wrapF .i64 (s0.2.2 + 1))))
     (obind (apO s0.1 [s0.2.2]) fun v341 =>
      obind (itO (s121_1 a0 a1 s0) (v341, some [s0.2.2], 0)) fun d501 =>
      obind (remO ((d501.2.1.getD []).length : Int) 2) fun v503 =>
      some (.inl (d501.1, wrapF .i64 (s0.2.1 + v503), wrapF .i64 (s0.2.2 + 1)))))
   (some (.inr (s0.1, s0.2.1, s0.2.2)))
def St121_0 (a0 : Option (List GUnit)) (a1 : Int) (s0 : (Option (List Int)) × Int × Int) : ASt := ⟨[(0, sl 2 vunit a0, false), (1, .int .i64 a1, false), (7, sl 1 vint s0.1, true), (8, .int .i64 s0.2.1, false), (9, .int .i64 s0.2.2, false)], []⟩
def Ex121_0 (a0 : Option (List GUnit)) (a1 : Int) (d : ((Option (List Int)) × Int × Int)) : AExit × ASt := (.exit 0, ⟨[(0, sl 2 vunit a0, false), (1, .int .i64 a1, false), (7, sl 1 vint d.1, true), (8, .int .i64 d.2.1, false), (9, .int .i64 d.2.2, false), (19, .bool false, false)], []⟩)
theorem b121_0 (a0 : Option (List GUnit)) (a1 : Int) (s0 : (Option (List Int)) × Int × Int) (r) (h : s121_0 a0 a1 s0 = some r) : stepO pr c121_0 (St121_0 a0 a1) (Ex121_0 a0 a1) s0 r := by
  unfold s121_0 at h
  rcases cond_split h with ⟨h337, h⟩ | ⟨h337, h⟩
  · obtain ⟨v338, h339, h⟩ := obind_some h
    have wh339 : callIso pr (X pr) 124 [sl 1 vint s0.1, .int .i64 s0.2.2] = some (.bool v338, false) := W124 h339
    rcases cond_split h with ⟨h340, h⟩ | ⟨h340, h⟩
    · cases h
      exact stepO_in (st' := ⟨[(0, sl 2 vunit a0, false), (1, .int .i64 a1, false), (7, sl 1 vint s0.1, true), (8, .int .i64 s0.2.1, false), (9, .int .i64 (wrapF .i64 (s0.2.2 + 1)), false)], []⟩) (by simp only [go_sem, seval, c121_0, St121_0, h337, wh339, h340] <;> rfl) (gc_same (Nat.le_refl _))
    · obtain ⟨v341, h342, h⟩ := obind_some h
      obtain ⟨d501, h502, h⟩ := obind_some h
      have wh502 : X pr (.loop c121_1) ⟨[(0, sl 2 vunit a0, false), (1, .int .i64 a1, false), (7, sl 1 vint v341, true), (8, .int .i64 s0.2.1, false), (9, .int .i64 s0.2.2, false), (10, .list false 1 [.int .i64 s0.2.2], true), (11, .int .i64 0, false)], []⟩ = some (.exit 2, ⟨[(0, sl 2 vunit a0, false), (1, .int .i64 a1, false), (7, sl 1 vint d501.1, true), (8, .int .i64 s0.2.1, false), (9, .int .i64 s0.2.2, false), (10, sl 1 vint d501.2.1, true), (11, .int .i64 d501.2.2, false), (34, .bool false, false)], []⟩) := l121_1 a0 a1 s0 h502
      obtain ⟨v503, h504, h⟩ := obind_some h
      cases h
      exact stepO_in (st' := ⟨[(0, sl 2 vunit a0, false), (1, .int .i64 a1, false), (7, sl 1 vint d501.1, true), (8, .int .i64 (wrapF .i64 (s0.2.1 + v503)), false), (9, .int .i64 (wrapF .i64 (s0.2.2 + 1)), false)], []⟩) (by simp only [go_sem, seval, c121_0, St121_0, h337, wh339, h340, app_vint_O h342, wh502, b_rem_O h504] <;> rfl) (gc_same (Nat.le_refl _))
  · cases h
    exact stepO_out (by simp only [go_sem, seval, c121_0, St121_0, h337, Ex121_0] <;> rfl)
theorem l121_0 (a0 : Option (List GUnit)) (a1 : Int) {s0 : (Option (List Int)) × Int × Int} {d} (h : itO (s121_0 a0 a1) s0 = some d) : X pr (.loop c121_0) (St121_0 a0 a1 s0) = some (Ex121_0 a0 a1 d) := X_itO (b121_0 a0 a1) (fun d hh => by cases hh) h
noncomputable def f121 (a0 : Option (List GUnit)) (a1 : Int) (a2 : Option (List Int)) : Option Int :=
  obind (apO (some []) (a2.getD [])) fun v1 =>
  obind (itO (s121_0 a0 a1) (v1, 0, 0)) fun d505 =>
  some d505.2.1
theorem W121 {a0 : Option (List GUnit)} {a1 : Int} {a2 : Option (List Int)} {r} (h : f121 a0 a1 a2 = some r) : callIso pr (X pr) 121 [sl 2 vunit a0, .int .i64 a1, sl 1 vint a2] = some (.int .i64 r, false) := by
  unfold f121 at h
  obtain ⟨v1, h2, h⟩ := obind_some h
  obtain ⟨d505, h506, h⟩ := obind_some h
  have wh506 : X pr (.loop c121_0) ⟨[(0, sl 2 vunit a0, false), (1, .int .i64 a1, false), (7, sl 1 vint v1, true), (8, .int .i64 0, false), (9, .int .i64 0, false)], []⟩ = some (.exit 0, ⟨[(0, sl 2 vunit a0, false), (1, .int .i64 a1, false), (7, sl 1 vint d505.1, true), (8, .int .i64 d505.2.1, false), (9, .int .i64 d505.2.2, false), (19, .bool false, false)], []⟩) := l121_0 a0 a1 h506
  have hr : d505.2.1 = r := Option.some.inj h
  subst hr
  have this : ∃ hh, callFn pr (X pr) 121 [sl 2 vunit a0, .int .i64 a1, sl 1 vint a2] [] = some (.int .i64 d505.2.1, false, hh) := by
    rw [callFn_at (show pr.fns 121 = some c121 from rfl) (by simp)]
    simp only [go_sem, seval, c121, app_lit_O h2, wh506]
    exact ⟨_, rfl⟩
  obtain ⟨hh, this⟩ := this
  exact callIso_of rfl this (by first | rfl | simp only [go_sem, seval]) (by first | rfl | simp only [go_sem, seval])
noncomputable def s120_0 (a0 : Option (List GUnit)) (a1 : Int) (a2 : Int) (a3 : Option (List Int)) (rec : (Option (List GUnit)) → Int → Int → (Option (List Int)) → Option ((Option (List Int)) × Bool)) (s0 : Int) : Option (Int ⊕ ((Option (List Int)) ⊕ Int)) :=
  cond (decide (s0 < ((a0.getD []).length : Int)))
   (obind (apO (some []) (a3.getD [])) fun v24 =>
    obind (apO v24 [s0]) fun v26 =>
    obind (rec a0 a1 a2 v26) fun v28 =>
    cond v28.2
     (some (.inr (.inl v28.1)))
     (some (.inl (wrapF .i64 (s0 + 1)))))
   (some (.inr (.inr s0)))
def St120_0 (a0 : Option (List GUnit)) (a1 : Int) (a2 : Int) (a3 : Option (List Int)) (rec : (Option (List GUnit)) → Int → Int → (Option (List Int)) → Option ((Option (List Int)) × Bool)) (s0 : Int) : ASt := ⟨[(0, sl 2 vunit a0, false), (1, .int .i64 a1, false), (2, .int .i64 a2, false), (3, sl 1 vint a3, false), (11, .int .i64 s0, false)], []⟩
def Ex120_0 (a0 : Option (List GUnit)) (a1 : Int) (a2 : Int) (a3 : Option (List Int)) (rec : (Option (List GUnit)) → Int → Int → (Option (List Int)) → Option ((Option (List Int)) × Bool)) : (Option (List Int)) ⊕ Int → AExit × ASt
  | .inl d => (.ret, ⟨[(8, sl 1 vint d, false), (9, .bool true, false)], []⟩)
  | .inr d => (.exit 0, ⟨[(0, sl 2 vunit a0, false), (1, .int .i64 a1, false), (2, .int .i64 a2, false), (3, sl 1 vint a3, false), (11, .int .i64 d, false), (39, .bool false, false)], []⟩)
theorem b120_0 (a0 : Option (List GUnit)) (a1 : Int) (a2 : Int) (a3 : Option (List Int)) (rec : (Option (List GUnit)) → Int → Int → (Option (List Int)) → Option ((Option (List Int)) × Bool)) (hrec : ∀ {a0 : Option (List GUnit)} {a1 : Int} {a2 : Int} {a3 : Option (List Int)} {r}, rec a0 a1 a2 a3 = some r → callIso pr (X pr) 120 [sl 2 vunit a0, .int .i64 a1, .int .i64 a2, sl 1 vint a3] = some (.tup [sl 1 vint r.1, .bool r.2], false)) (s0 : Int) (r) (h : s120_0 a0 a1 a2 a3 rec s0 = some r) : stepO pr c120_0 (St120_0 a0 a1 a2 a3 rec) (Ex120_0 a0 a1 a2 a3 rec) s0 r := by
  unfold s120_0 at h
  rcases cond_split h with ⟨h23, h⟩ | ⟨h23, h⟩
  · obtain ⟨v24, h25, h⟩ := obind_some h
    obtain ⟨v26, h27, h⟩ := obind_some h
    obtain ⟨v28, h29, h⟩ := obind_some h
    have wh29 : callIso pr (X pr) 120 [sl 2 vunit a0, .int .i64 a1, .int .i64 a2, sl 1 vint v26] = some (.tup [sl 1 vint v28.1, .bool v28.2], false) := hrec h29
    rcases cond_split h with ⟨h30, h⟩ | ⟨h30, h⟩
    · cases h
      exact stepO_out (by simp only [go_sem, seval, c120_0, St120_0, h23, app_lit_O h25, app_vint_O h27, wh29, h30, Ex120_0] <;> rfl)
    · cases h
      exact stepO_in (st' := ⟨[(0, sl 2 vunit a0, false), (1, .int .i64 a1, false), (2, .int .i64 a2, false), (3, sl 1 vint a3, false), (11, .int .i64 (wrapF .i64 (s0 + 1)), false)], []⟩) (by simp only [go_sem, seval, c120_0, St120_0, h23, app_lit_O h25, app_vint_O h27, wh29, h30] <;> rfl) (gc_same (Nat.le_refl _))
  · cases h
    exact stepO_out (by simp only [go_sem, seval, c120_0, St120_0, h23, Ex120_0] <;> rfl)
theorem l120_0 (a0 : Option (List GUnit)) (a1 : Int) (a2 : Int) (a3 : Option (List Int)) (rec : (Option (List GUnit)) → Int → Int → (Option (List Int)) → Option ((Option (List Int)) × Bool)) (hrec : ∀ {a0 : Option (List GUnit)} {a1 : Int} {a2 : Int} {a3 : Option (List Int)} {r}, rec a0 a1 a2 a3 = some r → callIso pr (X pr) 120 [sl 2 vunit a0, .int .i64 a1, .int .i64 a2, sl 1 vint a3] = some (.tup [sl 1 vint r.1, .bool r.2], false)) {s0 : Int} {d} (h : itO (s120_0 a0 a1 a2 a3 rec) s0 = some d) : X pr (.loop c120_0) (St120_0 a0 a1 a2 a3 rec s0) = some (Ex120_0 a0 a1 a2 a3 rec d) := X_itO (b120_0 a0 a1 a2 a3 rec hrec) (fun d => by rcases d with d|d <;> (intro hh; cases hh)) h
noncomputable def s120_0b (a0 : Option (List GUnit)) (a1 : Int) (a2 : Int) (a3 : Option (List Int)) (rec : (Option (List GUnit)) → Int → Int → (Option (List Int)) → Option ((Option (List Int)) × Bool)) (s0 : Int) : Option (Int ⊕ ((Option (List Int)) ⊕ Int)) :=
  cond (decide (s0 < ((a0.getD []).length : Int)))
   (obind (apO (some []) (a3.getD [])) fun v52 =>
    obind (apO v52 [s0]) fun v54 =>
    obind (rec a0 a1 a2 v54) fun v56 =>
    cond v56.2
     (some (.inr (.inl v56.1)))
     (some (.inl (wrapF .i64 (s0 + 1)))))
   (some (.inr (.inr s0)))
def St120_0b (a0 : Option (List GUnit)) (a1 : Int) (a2 : Int) (a3 : Option (List Int)) (rec : (Option (List GUnit)) → Int → Int → (Option (List Int)) → Option ((Option (List Int)) × Bool)) (s0 : Int) : ASt := ⟨[(0, sl 2 vunit a0, false), (1, .int .i64 a1, false), (2, .int .i64 a2, false), (3, sl 1 vint a3, false), (11, .int .i64 s0, false)], []⟩
def Ex120_0b (a0 : Option (List GUnit)) (a1 : Int) (a2 : Int) (a3 : Option (List Int)) (rec : (Option (List GUnit)) → Int → Int → (Option (List Int)) → Option ((Option (List Int)) × Bool)) : (Option (List Int)) ⊕ Int → AExit × ASt
  | .inl d => (.ret, ⟨[(8, sl 1 vint d, false), (9, .bool true, false)], []⟩)
  | .inr d => (.exit 0, ⟨[(0, sl 2 vunit a0, false), (1, .int .i64 a1, false), (2, .int .i64 a2, false), (3, sl 1 vint a3, false), (11, .int .i64 d, false), (39, .bool false, false)], []⟩)
theorem b120_0b (a0 : Option (List GUnit)) (a1 : Int) (a2 : Int) (a3 : Option (List Int)) (rec : (Option (List GUnit)) → Int → Int → (Option (List Int)) → Option ((Option (List Int)) × Bool)) (hrec : ∀ {a0 : Option (List GUnit)} {a1 : Int} {a2 : Int} {a3 : Option (List Int)} {r}, rec a0 a1 a2 a3 = some r → callIso pr (X pr) 120 [sl 2 vunit a0, .int .i64 a1, .int .i64 a2, sl 1 vint a3] = some (.tup [sl 1 vint r.1, .bool r.2], false)) (s0 : Int) (r) (h : s120_0b a0 a1 a2 a3 rec s0 = some r) : stepO pr c120_0 (St120_0b a0 a1 a2 a3 rec) (Ex120_0b a0 a1 a2 a3 rec) s0 r := by
  unfold s120_0b at h
  rcases cond_split h with ⟨h51, h⟩ | ⟨h51, h⟩
  · obtain ⟨v52, h53, h⟩ := obind_some h
    obtain ⟨v54, h55, h⟩ := obind_some h
    obtain ⟨v56, h57, h⟩ := obind_some h
    have wh57 : callIso pr (X pr) 120 [sl 2 vunit a0, .int .i64 a1, .int .i64 a2, sl 1 vint v54] = some (.tup [sl 1 vint v56.1, .bool v56.2], false) := hrec h57
    rcases cond_split h with ⟨h58, h⟩ | ⟨h58, h⟩
    · cases h
      exact stepO_out (by simp only [go_sem, seval, c120_0, St120_0b, h51, app_lit_O h53, app_vint_O h55, wh57, h58, Ex120_0b] <;> rfl)
    · cases h
      exact stepO_in (st' := ⟨[(0, sl 2 vunit a0, false), (1, .int .i64 a1, false), (2, .int .i64 a2, false), (3, sl 1 vint a3, false), (11, .int .i64 (wrapF .i64 (s0 + 1)), false)], []⟩) (by simp only [go_sem, seval, c120_0, St120_0b, h51, app_lit_O h53, app_vint_O h55, wh57, h58] <;> rfl) (gc_same (Nat.le_refl _))
  · cases h
    exact stepO_out (by simp only [go_sem, seval, c120_0, St120_0b, h51, Ex120_0b] <;> rfl)
theorem l120_0b (a0 : Option (List GUnit)) (a1 : Int) (a2 : Int) (a3 : Option (List Int)) (rec : (Option (List GUnit)) → Int → Int → (Option (List Int)) → Option ((Option (List Int)) × Bool)) (hrec : ∀ {a0 : Option (List GUnit)} {a1 : Int} {a2 : Int} {a3 : Option (List Int)} {r}, rec a0 a1 a2 a3 = some r → callIso pr (X pr) 120 [sl 2 vunit a0, .int .i64 a1, .int .i64 a2, sl 1 vint a3] = some (.tup [sl 1 vint r.1, .bool r.2], false)) {s0 : Int} {d} (h : itO (s120_0b a0 a1 a2 a3 rec) s0 = some d) : X pr (.loop c120_0) (St120_0b a0 a1 a2 a3 rec s0) = some (Ex120_0b a0 a1 a2 a3 rec d) := X_itO (b120_0b a0 a1 a2 a3 rec hrec) (fun d => by rcases d with d|d <;> (intro hh; cases hh)) h
noncomputable def F120 (rec : (Option (List GUnit)) → Int → Int → (Option (List Int)) → Option ((Option (List Int)) × Bool)) (a0 : Option (List GUnit)) (a1 : Int) (a2 : Int) (a3 : Option (List Int)) : Option ((Option (List Int)) × Bool) :=
  cond (decide (((a3.getD []).length : Int) = a2))
   (obind (f121 a0 a1 a3) fun v2 =>
    some (a3, decide (a2 < v2)))
   (cond (decide (0 < ((a3.getD []).length : Int)))
     (obind (idxO (a3.getD []) (wrapF .i64 (((a3.getD []).length : Int) - 1))) fun v5 =>
      obind (itO (s120_0 a0 a1 a2 a3 rec) (wrapF .i64 (v5 + 1))) fun d31 => match d31 with
        | .inl d33 =>
          some (d33, true)
        | .inr d34 =>
          some (none, false))
     (obind (itO (s120_0b a0 a1 a2 a3 rec) 0) fun d59 => match d59 with
        | .inl d61 =>
          some (d61, true)
        | .inr d62 =>
          some (none, false)))
theorem WF120 {rec : (Option (List GUnit)) → Int → Int → (Option (List Int)) → Option ((Option (List Int)) × Bool)} (hrec : ∀ {a0 : Option (List GUnit)} {a1 : Int} {a2 : Int} {a3 : Option (List Int)} {r}, rec a0 a1 a2 a3 = some r → callIso pr (X pr) 120 [sl 2 vunit a0, .int .i64 a1, .int .i64 a2, sl 1 vint a3] = some (.tup [sl 1 vint r.1, .bool r.2], false)) {a0 : Option (List GUnit)} {a1 : Int} {a2 : Int} {a3 : Option (List Int)} {r} (h : F120 rec a0 a1 a2 a3 = some r) : callIso pr (X pr) 120 [sl 2 vunit a0, .int .i64 a1, .int .i64 a2, sl 1 vint a3] = some (.tup [sl 1 vint r.1, .bool r.2], false) := by
  unfold F120 at h
  rcases cond_split h with ⟨h1, h⟩ | ⟨h1, h⟩
  · obtain ⟨v2, h3, h⟩ := obind_some h
    have wh3 : callIso pr (X pr) 121 [sl 2 vunit a0, .int .i64 a1, sl 1 vint a3] = some (.int .i64 v2, false) := W121 h3
    have hr : (a3, decide (a2 < v2)) = r := Option.some.inj h
    subst hr
    have this : ∃ hh, callFn pr (X pr) 120 [sl 2 vunit a0, .int .i64 a1, .int .i64 a2, sl 1 vint a3] [] = some (.tup [sl 1 vint a3, .bool (decide (a2 < v2))], false, hh) := by
      rw [callFn_at (show pr.fns 120 = some c120 from rfl) (by simp)]
      simp only [go_sem, seval, c120, h1, wh3]
      exact ⟨_, rfl⟩
    obtain ⟨hh, this⟩ := this
    exact callIso_of rfl this (by first | rfl | simp only [go_sem, seval]) (by first | rfl | simp only [go_sem, seval])
  · rcases cond_split h with ⟨h4, h⟩ | ⟨h4, h⟩
    · obtain ⟨v5, h6, h⟩ := obind_some h
      obtain ⟨d31, h32, h⟩ := obind_some h
      rcases d31 with d33 | d34
      · have wh32 : X pr (.loop c120_0) ⟨[(0, sl 2 vunit a0, false), (1, .int .i64 a1, false), (2, .int .i64 a2, false), (3, sl 1 vint a3, false), (11, .int .i64 (wrapF .i64 (v5 + 1)), false)], []⟩ = some (.ret, ⟨[(8, sl 1 vint d33, false), (9, .bool true, false)], []⟩) := l120_0 a0 a1 a2 a3 rec hrec h32
        have hr : (d33, true) = r := Option.some.inj h
        subst hr
        have this : ∃ hh, callFn pr (X pr) 120 [sl 2 vunit a0, .int .i64 a1, .int .i64 a2, sl 1 vint a3] [] = some (.tup [sl 1 vint d33, .bool true], false, hh) := by
          rw [callFn_at (show pr.fns 120 = some c120 from rfl) (by simp)]
          simp only [go_sem, seval, c120, h1, h4, idxR_O h6, wh32]
          exact ⟨_, rfl⟩
        obtain ⟨hh, this⟩ := this
        exact callIso_of rfl this (by first | rfl | simp only [go_sem, seval]) (by first | rfl | simp only [go_sem, seval])
      · have wh32 : X pr (.loop c120_0) ⟨[(0, sl 2 vunit a0, false), (1, .int .i64 a1, false), (2, .int .i64 a2, false), (3, sl 1 vint a3, false), (11, .int .i64 (wrapF .i64 (v5 + 1)), false)], []⟩ = some (.exit 0, ⟨[(0, sl 2 vunit a0, false), (1, .int .i64 a1, false), (2, .int .i64 a2, false), (3, sl 1 vint a3, false), (11, .int .i64 d34, false), (39, .bool false, false)], []⟩) := l120_0 a0 a1 a2 a3 rec hrec h32
        have hr : (none, false) = r := Option.some.inj h
        subst hr
        have this : ∃ hh, callFn pr (X pr) 120 [sl 2 vunit a0, .int .i64 a1, .int .i64 a2, sl 1 vint a3] [] = some (.tup [.list true 0 [], .bool false], false, hh) := by
          rw [callFn_at (show pr.fns 120 = some c120 from rfl) (by simp)]
          simp only [go_sem, seval, c120, h1, h4, idxR_O h6, wh32]
          exact ⟨_, rfl⟩
        obtain ⟨hh, this⟩ := this
        exact callIso_of rfl this (by first | rfl | simp only [go_sem, seval]) (by first | rfl | simp only [go_sem, seval])
    · obtain ⟨d59, h60, h⟩ := obind_some h
      rcases d59 with d61 | d62
      · have wh60 : X pr (.loop c120_0) ⟨[(0, sl 2 vunit a0, false), (1, .int .i64 a1, false), (2, .int .i64 a2, false), (3, sl 1 vint a3, false), (11, .int .i64 0, false)], []⟩ = some (.ret, ⟨[(8, sl 1 vint d61, false), (9, .bool true, false)], []⟩) := l120_0b a0 a1 a2 a3 rec hrec h60
        have hr : (d61, true) = r := Option.some.inj h
        subst hr
        have this : ∃ hh, callFn pr (X pr) 120 [sl 2 vunit a0, .int .i64 a1, .int .i64 a2, sl 1 vint a3] [] = some (.tup [sl 1 vint d61, .bool true], false, hh) := by
          rw [callFn_at (show pr.fns 120 = some c120 from rfl) (by simp)]
          simp only [go_sem, seval, c120, h1, h4, wh60]
          exact ⟨_, rfl⟩
        obtain ⟨hh, this⟩ := this
        exact callIso_of rfl this (by first | rfl | simp only [go_sem, seval]) (by first | rfl | simp only [go_sem, seval])
      · have wh60 : X pr (.loop c120_0) ⟨[(0, sl 2 vunit a0, false), (1, .int .i64 a1, false), (2, .int .i64 a2, false), (3, sl 1 vint a3, false), (11, .int .i64 0, false)], []⟩ = some (.exit 0, ⟨[(0, sl 2 vunit a0, false), (1, .int .i64 a1, false), (2, .int .i64 a2, false), (3, sl 1 vint a3, false), (11, .int .i64 d62, false), (39, .bool false, false)], []⟩) := l120_0b a0 a1 a2 a3 rec hrec h60
        have hr : (none, false) = r := Option.some.inj h
        subst hr
        have this : ∃ hh, callFn pr (X pr) 120 [sl 2 vunit a0, .int .i64 a1, .int .i64 a2, sl 1 vint a3] [] = some (.tup [.list true 0 [], .bool false], false, hh) := by
          rw [callFn_at (show pr.fns 120 = some c120 from rfl) (by simp)]
          simp only [go_sem, seval, c120, h1, h4, wh60]
          exact ⟨_, rfl⟩
        obtain ⟨hh, this⟩ := this
        exact callIso_of rfl this (by first | rfl | simp only [go_sem, seval]) (by first | rfl | simp only [go_sem, seval])
noncomputable def f120 : Nat → (Option (List GUnit)) → Int → Int → (Option (List Int)) → Option ((Option (List Int)) × Bool)
  | 0 => fun _ _ _ _ => none
  | n + 1 => F120 (f120 n)
theorem W120 : ∀ (n : Nat) {a0 : Option (List GUnit)} {a1 : Int} {a2 : Int} {a3 : Option (List Int)} {r} (h : f120 n a0 a1 a2 a3 = some r), callIso pr (X pr) 120 [sl 2 vunit a0, .int .i64 a1, .int .i64 a2, sl 1 vint a3] = some (.tup [sl 1 vint r.1, .bool r.2], false)
  | 0, _, _, _, _, _, h => by cases h
  | n + 1, _, _, _, _, _, h => WF120 (W120 n) h
end Go.Z
/-
  LineProofs: the reference's functions, the checks, second part: functions that mirror the runs, and the runs (printed by walk.py).
-/
set_option maxRecDepth 100000
set_option linter.unusedSimpArgs false
set_option linter.unusedVariables false
set_option maxHeartbeats 4000000
namespace Go.Z
open Go Go.Abs
noncomputable def s64_0 (a0 : Option (List GUnit)) (a1 : Int) (s0 : Int) : Option (Int ⊕ ((Option (List Int)) ⊕ Int)) :=
  cond (decide (s0 ≤ ((a0.getD []).length : Int)))
   (obind (f120 12 a0 a1 s0 none) fun v10 =>
    cond v10.2
     (some (.inr (.inl v10.1)))
     (some (.inl (wrapF .i64 (s0 + 1)))))
   (some (.inr (.inr s0)))
def St64_0 (a0 : Option (List GUnit)) (a1 : Int) (s0 : Int) : ASt := ⟨[(0, sl 2 vunit a0, false), (1, .int .i64 a1, false), (6, .int .i64 s0, false)], []⟩
def Ex64_0 (a0 : Option (List GUnit)) (a1 : Int) : (Option (List Int)) ⊕ Int → AExit × ASt
  | .inl d => (.ret, ⟨[(4, sl 1 vint d, false), (5, .int .i64 0, false)], []⟩)
  | .inr d => (.exit 0, ⟨[(0, sl 2 vunit a0, false), (1, .int .i64 a1, false), (6, .int .i64 d, false), (12, .bool false, false)], []⟩)
theorem b64_0 (a0 : Option (List GUnit)) (a1 : Int) (s0 : Int) (r) (h : s64_0 a0 a1 s0 = some r) : stepO pr c64_0 (St64_0 a0 a1) (Ex64_0 a0 a1) s0 r := by
  unfold s64_0 at h
  rcases cond_split h with ⟨h9, h⟩ | ⟨h9, h⟩
  · obtain ⟨v10, h11, h⟩ := obind_some h
    have wh11 : callIso pr (X pr) 120 [sl 2 vunit a0, .int .i64 a1, .int .i64 s0, .list true 0 []] = some (.tup [sl 1 vint v10.1, .bool v10.2], false) := W120 12 h11
    rcases cond_split h with ⟨h12, h⟩ | ⟨h12, h⟩
    · cases h
      exact stepO_out (by simp only [go_sem, seval, c64_0, St64_0, h9, wh11, h12, Ex64_0] <;> rfl)
    · cases h
      exact stepO_in (st' := ⟨[(0, sl 2 vunit a0, false), (1, .int .i64 a1, false), (6, .int .i64 (wrapF .i64 (s0 + 1)), false)], []⟩) (by simp only [go_sem, seval, c64_0, St64_0, h9, wh11, h12] <;> rfl) (gc_same (Nat.le_refl _))
  · cases h
    exact stepO_out (by simp only [go_sem, seval, c64_0, St64_0, h9, Ex64_0] <;> rfl)
theorem l64_0 (a0 : Option (List GUnit)) (a1 : Int) {s0 : Int} {d} (h : itO (s64_0 a0 a1) s0 = some d) : X pr (.loop c64_0) (St64_0 a0 a1 s0) = some (Ex64_0 a0 a1 d) := X_itO (b64_0 a0 a1) (fun d => by rcases d with d|d <;> (intro hh; cases hh)) h
noncomputable def f64 (a0 : Option (List GUnit)) (a1 : Int) : Option ((Option (List Int)) × Int) :=
  obind (itO (s64_0 a0 a1) 0) fun d13 => match d13 with
    | .inl d15 =>
      some (d15, 0)
    | .inr d16 =>
      some (none, 7)
theorem W64 {a0 : Option (List GUnit)} {a1 : Int} {r} (h : f64 a0 a1 = some r) : callIso pr (X pr) 64 [sl 2 vunit a0, .int .i64 a1] = some (.tup [sl 1 vint r.1, .int .i64 r.2], false) := by
  unfold f64 at h
  obtain ⟨d13, h14, h⟩ := obind_some h
  rcases d13 with d15 | d16
  · have wh14 : X pr (.loop c64_0) ⟨[(0, sl 2 vunit a0, false), (1, .int .i64 a1, false), (6, .int .i64 0, false)], []⟩ = some (.ret, ⟨[(4, sl 1 vint d15, false), (5, .int .i64 0, false)], []⟩) := l64_0 a0 a1 h14
    have hr : (d15, 0) = r := Option.some.inj h
    subst hr
    have this : ∃ hh, callFn pr (X pr) 64 [sl 2 vunit a0, .int .i64 a1] [] = some (.tup [sl 1 vint d15, .int .i64 0], false, hh) := by
      rw [callFn_at (show pr.fns 64 = some c64 from rfl) (by simp)]
      simp only [go_sem, seval, c64, wh14]
      exact ⟨_, rfl⟩
    obtain ⟨hh, this⟩ := this
    exact callIso_of rfl this (by first | rfl | simp only [go_sem, seval]) (by first | rfl | simp only [go_sem, seval])
  · have wh14 : X pr (.loop c64_0) ⟨[(0, sl 2 vunit a0, false), (1, .int .i64 a1, false), (6, .int .i64 0, false)], []⟩ = some (.exit 0, ⟨[(0, sl 2 vunit a0, false), (1, .int .i64 a1, false), (6, .int .i64 d16, false), (12, .bool false, false)], []⟩) := l64_0 a0 a1 h14
    have hr : (none, 7) = r := Option.some.inj h
    subst hr
    have this : ∃ hh, callFn pr (X pr) 64 [sl 2 vunit a0, .int .i64 a1] [] = some (.tup [.list true 0 [], .int .i64 7], false, hh) := by
      rw [callFn_at (show pr.fns 64 = some c64 from rfl) (by simp)]
      simp only [go_sem, seval, c64, wh14]
      exact ⟨_, rfl⟩
    obtain ⟨hh, this⟩ := this
    exact callIso_of rfl this (by first | rfl | simp only [go_sem, seval]) (by first | rfl | simp only [go_sem, seval])
noncomputable def s65_0 (a0 : Option (List GUnit)) (a1 : Int) (a2 : Option (List Int)) (s0 : Int) : Option (Int ⊕ (Int ⊕ Int)) :=
  cond (decide (s0 < ((a2.getD []).length : Int)))
   (obind (idxO (a2.getD []) s0) fun v18 =>
    obind (E23 v18 0 (wrapF .i64 (((a0.getD []).length : Int) - 1))) fun v20 =>
    cond (decide (v20 = 0))
     (cond (decide (0 < s0))
       (obind (idxO (a2.getD []) (wrapF .i64 (s0 - 1))) fun v24 =>
        cond (decide (v18 ≤ v24))
         (some (.inr (.inl 11)))
         (some (.inl (wrapF .i64 (s0 + 1)))))
       (some (.inl (wrapF .i64 (s0 + 1)))))
     (some (.inr (.inl 10))))
   (some (.inr (.inr s0)))
def St65_0 (a0 : Option (List GUnit)) (a1 : Int) (a2 : Option (List Int)) (s0 : Int) : ASt := ⟨[(0, sl 2 vunit a0, false), (1, .int .i64 a1, false), (2, sl 1 vint a2, false), (7, .int .i64 s0, false)], []⟩
def Ex65_0 (a0 : Option (List GUnit)) (a1 : Int) (a2 : Option (List Int)) : Int ⊕ Int → AExit × ASt
  | .inl d => (.ret, ⟨[(6, .int .i64 d, false)], []⟩)
  | .inr d => (.exit 0, ⟨[(0, sl 2 vunit a0, false), (1, .int .i64 a1, false), (2, sl 1 vint a2, false), (7, .int .i64 d, false), (11, .bool false, false)], []⟩)
theorem b65_0 (a0 : Option (List GUnit)) (a1 : Int) (a2 : Option (List Int)) (s0 : Int) (r) (h : s65_0 a0 a1 a2 s0 = some r) : stepO pr c65_0 (St65_0 a0 a1 a2) (Ex65_0 a0 a1 a2) s0 r := by
  unfold s65_0 at h
  rcases cond_split h with ⟨h17, h⟩ | ⟨h17, h⟩
  · obtain ⟨v18, h19, h⟩ := obind_some h
    obtain ⟨v20, h21, h⟩ := obind_some h
    have wh21 : callIso pr (X pr) 23 [.int .i64 v18, .int .i64 0, .int .i64 (wrapF .i64 (((a0.getD []).length : Int) - 1))] = some (.int .i64 v20, false) := WE23 h21
    rcases cond_split h with ⟨h22, h⟩ | ⟨h22, h⟩
    · rcases cond_split h with ⟨h23, h⟩ | ⟨h23, h⟩
      · obtain ⟨v24, h25, h⟩ := obind_some h
        rcases cond_split h with ⟨h26, h⟩ | ⟨h26, h⟩
        · cases h
          exact stepO_out (by simp only [go_sem, seval, c65_0, St65_0, h17, idxR_O h19, wh21, h22, h23, idxR_O h25, h26, Ex65_0] <;> rfl)
        · cases h
          exact stepO_in (st' := ⟨[(0, sl 2 vunit a0, false), (1, .int .i64 a1, false), (2, sl 1 vint a2, false), (7, .int .i64 (wrapF .i64 (s0 + 1)), false)], []⟩) (by simp only [go_sem, seval, c65_0, St65_0, h17, idxR_O h19, wh21, h22, h23, idxR_O h25, h26] <;> rfl) (gc_same (Nat.le_refl _))
      · cases h
        exact stepO_in (st' := ⟨[(0, sl 2 vunit a0, false), (1, .int .i64 a1, false), (2, sl 1 vint a2, false), (7, .int .i64 (wrapF .i64 (s0 + 1)), false)], []⟩) (by simp only [go_sem, seval, c65_0, St65_0, h17, idxR_O h19, wh21, h22, h23] <;> rfl) (gc_same (Nat.le_refl _))
    · cases h
      exact stepO_out (by simp only [go_sem, seval, c65_0, St65_0, h17, idxR_O h19, wh21, h22, Ex65_0] <;> rfl)
  · cases h
    exact stepO_out (by simp only [go_sem, seval, c65_0, St65_0, h17, Ex65_0] <;> rfl)
theorem l65_0 (a0 : Option (List GUnit)) (a1 : Int) (a2 : Option (List Int)) {s0 : Int} {d} (h : itO (s65_0 a0 a1 a2) s0 = some d) : X pr (.loop c65_0) (St65_0 a0 a1 a2 s0) = some (Ex65_0 a0 a1 a2 d) := X_itO (b65_0 a0 a1 a2) (fun d => by rcases d with d|d <;> (intro hh; cases hh)) h
noncomputable def f65 (a0 : Option (List GUnit)) (a1 : Int) (a2 : Option (List Int)) : Option Int :=
  obind (itO (s65_0 a0 a1 a2) 0) fun d27 => match d27 with
    | .inl d29 =>
      some d29
    | .inr d30 =>
      obind (f121 a0 a1 a2) fun v31 =>
      obind (E24 (decide (v31 ≤ ((a2.getD []).length : Int))) 22) fun v33 =>
      some v33
theorem W65 {a0 : Option (List GUnit)} {a1 : Int} {a2 : Option (List Int)} {r} (h : f65 a0 a1 a2 = some r) : callIso pr (X pr) 65 [sl 2 vunit a0, .int .i64 a1, sl 1 vint a2] = some (.int .i64 r, false) := by
  unfold f65 at h
  obtain ⟨d27, h28, h⟩ := obind_some h
  rcases d27 with d29 | d30
  · have wh28 : X pr (.loop c65_0) ⟨[(0, sl 2 vunit a0, false), (1, .int .i64 a1, false), (2, sl 1 vint a2, false), (7, .int .i64 0, false)], []⟩ = some (.ret, ⟨[(6, .int .i64 d29, false)], []⟩) := l65_0 a0 a1 a2 h28
    have hr : d29 = r := Option.some.inj h
    subst hr
    have this : ∃ hh, callFn pr (X pr) 65 [sl 2 vunit a0, .int .i64 a1, sl 1 vint a2] [] = some (.int .i64 d29, false, hh) := by
      rw [callFn_at (show pr.fns 65 = some c65 from rfl) (by simp)]
      simp only [go_sem, seval, c65, wh28]
      exact ⟨_, rfl⟩
    obtain ⟨hh, this⟩ := this
    exact callIso_of rfl this (by first | rfl | simp only [go_sem, seval]) (by first | rfl | simp only [go_sem, seval])
  · have wh28 : X pr (.loop c65_0) ⟨[(0, sl 2 vunit a0, false), (1, .int .i64 a1, false), (2, sl 1 vint a2, false), (7, .int .i64 0, false)], []⟩ = some (.exit 0, ⟨[(0, sl 2 vunit a0, false), (1, .int .i64 a1, false), (2, sl 1 vint a2, false), (7, .int .i64 d30, false), (11, .bool false, false)], []⟩) := l65_0 a0 a1 a2 h28
    obtain ⟨v31, h32, h⟩ := obind_some h
    have wh32 : callIso pr (X pr) 121 [sl 2 vunit a0, .int .i64 a1, sl 1 vint a2] = some (.int .i64 v31, false) := W121 h32
    obtain ⟨v33, h34, h⟩ := obind_some h
    have wh34 : callIso pr (X pr) 96 [.bool (decide (v31 ≤ ((a2.getD []).length : Int))), .int .i64 22] = some (.int .i64 v33, false) := WE96 h34
    have hr : v33 = r := Option.some.inj h
    subst hr
    have this : ∃ hh, callFn pr (X pr) 65 [sl 2 vunit a0, .int .i64 a1, sl 1 vint a2] [] = some (.int .i64 v33, false, hh) := by
      rw [callFn_at (show pr.fns 65 = some c65 from rfl) (by simp)]
      simp only [go_sem, seval, c65, wh28, wh32, wh34]
      exact ⟨_, rfl⟩
    obtain ⟨hh, this⟩ := this
    exact callIso_of rfl this (by first | rfl | simp only [go_sem, seval]) (by first | rfl | simp only [go_sem, seval])
end Go.Z
