/-
  LineLoads: a function that mirrors the run, and the run (printed by walk.py).
-/
import Derived.Test.YtbkpojiedkhfkaaGreatD0
set_option linter.unusedVariables false
set_option linter.unusedSimpArgs false
set_option maxRecDepth 100000
set_option linter.unusedSimpArgs false
set_option linter.unusedVariables false
set_option maxHeartbeats 4000000
namespace Go.Z
open Go Go.Abs
noncomputable def s12_0 (a0 : Option (List Int)) (a1 : Option (List Int)) (a2 : GPair8) (v1 : Int) (v16 : (Option (List Int)) × Int × Int) (v18 : Int × Int) (v22 : Int × Int) (v24 : (Option (List Int)) × Int × Int) (v26 : (Option (List Int)) × Int × Int) (v28 : Option (List Int)) (s0 : (Option (List Int)) × (Option (List Int)) × Int × Int × Bool × Bool) : Option (((Option (List Int)) × (Option (List Int)) × Int × Int × Bool × Bool) ⊕ (((Option (List Int)) × Bool × (Option (List Int)) × Bool × Int × Int))) :=
  cond (decide (s0.2.2.2.1 < ((a0.getD []).length : Int)))
   (obind (idxO (a0.getD []) s0.2.2.2.1) fun v75 =>
    obind (idxO (a1.getD []) s0.2.2.2.1) fun v77 =>
    obind (remO (wrapF .i64 v77) (wrapF .i64 (1 + v1))) fun v79 =>
    cond s0.2.2.2.2.1
     (obind (apO s0.1 [v79]) fun v82 =>
      obind (idxO (v28.getD []) s0.2.2.2.1) fun v84 =>
      obind (idxO (a0.getD []) v84) fun v86 =>
      cond s0.2.2.2.2.2
       (obind (apO s0.2.1 [v86]) fun v89 =>
        some (.inl (v82, v89, wrapF .i64 (s0.2.2.1 + v75), wrapF .i64 (s0.2.2.2.1 + 1), true, true)))
       (cond s0.2.1.isNone
         (obind (apO s0.2.1 [v86]) fun v92 =>
          some (.inl (v82, v92, wrapF .i64 (s0.2.2.1 + v75), wrapF .i64 (s0.2.2.2.1 + 1), true, true)))
         (none)))
     (cond s0.1.isNone
       (obind (apO s0.1 [v79]) fun v95 =>
        obind (idxO (v28.getD []) s0.2.2.2.1) fun v97 =>
        obind (idxO (a0.getD []) v97) fun v99 =>
        cond s0.2.2.2.2.2
         (obind (apO s0.2.1 [v99]) fun v102 =>
          some (.inl (v95, v102, wrapF .i64 (s0.2.2.1 + v75), wrapF .i64 (s0.2.2.2.1 + 1), true, true)))
         (cond s0.2.1.isNone
           (obind (apO s0.2.1 [v99]) fun v105 =>
            some (.inl (v95, v105, wrapF .i64 (s0.2.2.1 + v75), wrapF .i64 (s0.2.2.2.1 + 1), true, true)))
           (none)))
       (none)))
   (some (.inr (s0.1, s0.2.2.2.2.1, s0.2.1, s0.2.2.2.2.2, s0.2.2.1, s0.2.2.2.1)))
def St12_0 (a0 : Option (List Int)) (a1 : Option (List Int)) (a2 : GPair8) (v1 : Int) (v16 : (Option (List Int)) × Int × Int) (v18 : Int × Int) (v22 : Int × Int) (v24 : (Option (List Int)) × Int × Int) (v26 : (Option (List Int)) × Int × Int) (v28 : Option (List Int)) (s0 : (Option (List Int)) × (Option (List Int)) × Int × Int × Bool × Bool) : ASt := ⟨[(0, sl 1 vint a0, false), (1, sl 1 (vintk .u8) a1, false), (7, .int .i64 (wrapF .i64 (1 + v1)), false), (9, .int .i64 v16.2.1, false), (10, .int .i64 v16.2.2, false), (11, .int .i64 v18.1, false), (12, .int .i64 v18.2, false), (13, .int .i64 v22.1, false), (14, .int .i64 v22.2, false), (16, .int .i64 v24.2.1, false), (17, .int .i64 v24.2.2, false), (19, .int .i64 v26.2.1, false), (20, .int .i64 v26.2.2, false), (21, sl 1 vint s0.1, s0.2.2.2.2.1), (22, sl 1 vint s0.2.1, s0.2.2.2.2.2), (23, .int .i64 s0.2.2.1, false), (24, sl 1 vint v28, false), (115, sl 1 vint a0, false), (116, .int .i64 ((a0.getD []).length : Int), false), (117, .int .i64 s0.2.2.2.1, false)], [.cells [(.int .u8 a2.a, false), (.int .u8 a2.b, false)]]⟩
def Ex12_0 (a0 : Option (List Int)) (a1 : Option (List Int)) (a2 : GPair8) (v1 : Int) (v16 : (Option (List Int)) × Int × Int) (v18 : Int × Int) (v22 : Int × Int) (v24 : (Option (List Int)) × Int × Int) (v26 : (Option (List Int)) × Int × Int) (v28 : Option (List Int)) (d : ((Option (List Int)) × Bool × (Option (List Int)) × Bool × Int × Int)) : AExit × ASt := (.exit 0, ⟨[(0, sl 1 vint a0, false), (1, sl 1 (vintk .u8) a1, false), (7, .int .i64 (wrapF .i64 (1 + v1)), false), (9, .int .i64 v16.2.1, false), (10, .int .i64 v16.2.2, false), (11, .int .i64 v18.1, false), (12, .int .i64 v18.2, false), (13, .int .i64 v22.1, false), (14, .int .i64 v22.2, false), (16, .int .i64 v24.2.1, false), (17, .int .i64 v24.2.2, false), (19, .int .i64 v26.2.1, false), (20, .int .i64 v26.2.2, false), (21, sl 1 vint d.1, d.2.1), (22, sl 1 vint d.2.2.1, d.2.2.2.1), (23, .int .i64 d.2.2.2.2.1, false), (24, sl 1 vint v28, false), (115, sl 1 vint a0, false), (116, .int .i64 ((a0.getD []).length : Int), false), (117, .int .i64 d.2.2.2.2.2, false), (118, .bool false, false)], [.cells [(.int .u8 a2.a, false), (.int .u8 a2.b, false)]]⟩)
theorem b12_0 (a0 : Option (List Int)) (a1 : Option (List Int)) (a2 : GPair8) (v1 : Int) (v16 : (Option (List Int)) × Int × Int) (v18 : Int × Int) (v22 : Int × Int) (v24 : (Option (List Int)) × Int × Int) (v26 : (Option (List Int)) × Int × Int) (v28 : Option (List Int)) (s0 : (Option (List Int)) × (Option (List Int)) × Int × Int × Bool × Bool) (r) (h : s12_0 a0 a1 a2 v1 v16 v18 v22 v24 v26 v28 s0 = some r) : stepO prL c12_0 (St12_0 a0 a1 a2 v1 v16 v18 v22 v24 v26 v28) (Ex12_0 a0 a1 a2 v1 v16 v18 v22 v24 v26 v28) s0 r := by
  unfold s12_0 at h
  rcases cond_split h with ⟨h74, h⟩ | ⟨h74, h⟩
  · obtain ⟨v75, h76, h⟩ := obind_some h
    obtain ⟨v77, h78, h⟩ := obind_some h
    obtain ⟨v79, h80, h⟩ := obind_some h
    rcases cond_split h with ⟨h81, h⟩ | ⟨h81, h⟩
    · obtain ⟨v82, h83, h⟩ := obind_some h
      obtain ⟨v84, h85, h⟩ := obind_some h
      obtain ⟨v86, h87, h⟩ := obind_some h
      rcases cond_split h with ⟨h88, h⟩ | ⟨h88, h⟩
      · obtain ⟨v89, h90, h⟩ := obind_some h
        cases h
        exact stepO_in (st' := ⟨[(0, sl 1 vint a0, false), (1, sl 1 (vintk .u8) a1, false), (7, .int .i64 (wrapF .i64 (1 + v1)), false), (9, .int .i64 v16.2.1, false), (10, .int .i64 v16.2.2, false), (11, .int .i64 v18.1, false), (12, .int .i64 v18.2, false), (13, .int .i64 v22.1, false), (14, .int .i64 v22.2, false), (16, .int .i64 v24.2.1, false), (17, .int .i64 v24.2.2, false), (19, .int .i64 v26.2.1, false), (20, .int .i64 v26.2.2, false), (21, sl 1 vint v82, true), (22, sl 1 vint v89, true), (23, .int .i64 (wrapF .i64 (s0.2.2.1 + v75)), false), (24, sl 1 vint v28, false), (115, sl 1 vint a0, false), (116, .int .i64 ((a0.getD []).length : Int), false), (117, .int .i64 (wrapF .i64 (s0.2.2.2.1 + 1)), false)], [.cells [(.int .u8 a2.a, false), (.int .u8 a2.b, false)]]⟩) (by simp only [go_sem, seval, c12_0, St12_0, h74, idxR_O h76, idxR_O h78, b_rem_O h80, h81, app_vint_O h83, idxR_O h85, idxR_O h87, h88, app_vint_O h90] <;> rfl) (gc_same (Nat.le_refl _))
      · rcases cond_split h with ⟨h91, h⟩ | ⟨h91, h⟩
        · obtain ⟨v92, h93, h⟩ := obind_some h
          cases h
          exact stepO_in (st' := ⟨[(0, sl 1 vint a0, false), (1, sl 1 (vintk .u8) a1, false), (7, .int .i64 (wrapF .i64 (1 + v1)), false), (9, .int .i64 v16.2.1, false), (10, .int .i64 v16.2.2, false), (11, .int .i64 v18.1, false), (12, .int .i64 v18.2, false), (13, .int .i64 v22.1, false), (14, .int .i64 v22.2, false), (16, .int .i64 v24.2.1, false), (17, .int .i64 v24.2.2, false), (19, .int .i64 v26.2.1, false), (20, .int .i64 v26.2.2, false), (21, sl 1 vint v82, true), (22, sl 1 vint v92, true), (23, .int .i64 (wrapF .i64 (s0.2.2.1 + v75)), false), (24, sl 1 vint v28, false), (115, sl 1 vint a0, false), (116, .int .i64 ((a0.getD []).length : Int), false), (117, .int .i64 (wrapF .i64 (s0.2.2.2.1 + 1)), false)], [.cells [(.int .u8 a2.a, false), (.int .u8 a2.b, false)]]⟩) (by simp only [go_sem, seval, c12_0, St12_0, h74, idxR_O h76, idxR_O h78, b_rem_O h80, h81, app_vint_O h83, idxR_O h85, idxR_O h87, h88, h91, app_vint_N h93 h91] <;> rfl) (gc_same (Nat.le_refl _))
        · cases h
    · rcases cond_split h with ⟨h94, h⟩ | ⟨h94, h⟩
      · obtain ⟨v95, h96, h⟩ := obind_some h
        obtain ⟨v97, h98, h⟩ := obind_some h
        obtain ⟨v99, h100, h⟩ := obind_some h
        rcases cond_split h with ⟨h101, h⟩ | ⟨h101, h⟩
        · obtain ⟨v102, h103, h⟩ := obind_some h
          cases h
          exact stepO_in (st' := ⟨[(0, sl 1 vint a0, false), (1, sl 1 (vintk .u8) a1, false), (7, .int .i64 (wrapF .i64 (1 + v1)), false), (9, .int .i64 v16.2.1, false), (10, .int .i64 v16.2.2, false), (11, .int .i64 v18.1, false), (12, .int .i64 v18.2, false), (13, .int .i64 v22.1, false), (14, .int .i64 v22.2, false), (16, .int .i64 v24.2.1, false), (17, .int .i64 v24.2.2, false), (19, .int .i64 v26.2.1, false), (20, .int .i64 v26.2.2, false), (21, sl 1 vint v95, true), (22, sl 1 vint v102, true), (23, .int .i64 (wrapF .i64 (s0.2.2.1 + v75)), false), (24, sl 1 vint v28, false), (115, sl 1 vint a0, false), (116, .int .i64 ((a0.getD []).length : Int), false), (117, .int .i64 (wrapF .i64 (s0.2.2.2.1 + 1)), false)], [.cells [(.int .u8 a2.a, false), (.int .u8 a2.b, false)]]⟩) (by simp only [go_sem, seval, c12_0, St12_0, h74, idxR_O h76, idxR_O h78, b_rem_O h80, h81, h94, app_vint_N h96 h94, idxR_O h98, idxR_O h100, h101, app_vint_O h103] <;> rfl) (gc_same (Nat.le_refl _))
        · rcases cond_split h with ⟨h104, h⟩ | ⟨h104, h⟩
          · obtain ⟨v105, h106, h⟩ := obind_some h
            cases h
            exact stepO_in (st' := ⟨[(0, sl 1 vint a0, false), (1, sl 1 (vintk .u8) a1, false), (7, .int .i64 (wrapF .i64 (1 + v1)), false), (9, .int .i64 v16.2.1, false), (10, .int .i64 v16.2.2, false), (11, .int .i64 v18.1, false), (12, .int .i64 v18.2, false), (13, .int .i64 v22.1, false), (14, .int .i64 v22.2, false), (16, .int .i64 v24.2.1, false), (17, .int .i64 v24.2.2, false), (19, .int .i64 v26.2.1, false), (20, .int .i64 v26.2.2, false), (21, sl 1 vint v95, true), (22, sl 1 vint v105, true), (23, .int .i64 (wrapF .i64 (s0.2.2.1 + v75)), false), (24, sl 1 vint v28, false), (115, sl 1 vint a0, false), (116, .int .i64 ((a0.getD []).length : Int), false), (117, .int .i64 (wrapF .i64 (s0.2.2.2.1 + 1)), false)], [.cells [(.int .u8 a2.a, false), (.int .u8 a2.b, false)]]⟩) (by simp only [go_sem, seval, c12_0, St12_0, h74, idxR_O h76, idxR_O h78, b_rem_O h80, h81, h94, app_vint_N h96 h94, idxR_O h98, idxR_O h100, h101, h104, app_vint_N h106 h104] <;> rfl) (gc_same (Nat.le_refl _))
          · cases h
      · cases h
  · cases h
    exact stepO_out (by simp only [go_sem, seval, c12_0, St12_0, h74, Ex12_0] <;> rfl)
theorem l12_0 (a0 : Option (List Int)) (a1 : Option (List Int)) (a2 : GPair8) (v1 : Int) (v16 : (Option (List Int)) × Int × Int) (v18 : Int × Int) (v22 : Int × Int) (v24 : (Option (List Int)) × Int × Int) (v26 : (Option (List Int)) × Int × Int) (v28 : Option (List Int)) {s0 : (Option (List Int)) × (Option (List Int)) × Int × Int × Bool × Bool} {d} (h : itO (s12_0 a0 a1 a2 v1 v16 v18 v22 v24 v26 v28) s0 = some d) : X prL (.loop c12_0) (St12_0 a0 a1 a2 v1 v16 v18 v22 v24 v26 v28 s0) = some (Ex12_0 a0 a1 a2 v1 v16 v18 v22 v24 v26 v28 d) := X_itO (b12_0 a0 a1 a2 v1 v16 v18 v22 v24 v26 v28) (fun d hh => by cases hh) h
noncomputable def f12 (a0 : Option (List Int)) (a1 : Option (List Int)) (a2 : GPair8) : Option Bool :=
  obind (remO (wrapF .i64 a2.a) 3) fun v1 =>
  obind (E14) fun v3 =>
  cond v3
   (cond (decide (6 < ((a0.getD []).length : Int)))
     (some v3)
     (obind (f77 a0 (wrapF .i64 (1 + v1))) fun v7 =>
      cond (decide (v7 = 0))
       (obind (E82 a0 1 1000) fun v10 =>
        cond (decide (v10 = 0))
         (cond (decide (((a1.getD []).length : Int) < ((a0.getD []).length : Int)))
           (some v3)
           (obind (E62 a0) fun v14 =>
            obind (f74 v14 (wrapF .i64 (1 + v1))) fun v16 =>
            obind (f76 v14 (wrapF .i64 (1 + v1))) fun v18 =>
            obind (E62 v16.1) fun v20 =>
            obind (f75 v14 (wrapF .i64 (1 + v1)) v20) fun v22 =>
            obind (f74 v14 (wrapF .i64 ((wrapF .i64 (1 + v1)) + 1))) fun v24 =>
            obind (f74 v14 1) fun v26 =>
            obind (E55 (wrapF .i64 (1 + (wrapF .i64 a2.b))) ((a0.getD []).length : Int)) fun v28 =>
            obind (itO (s12_0 a0 a1 a2 v1 v16 v18 v22 v24 v26 v28) (none, none, 0, 0, false, false)) fun d107 =>
            obind (f75 v14 (wrapF .i64 (1 + v1)) d107.1) fun v109 =>
            obind (E62 d107.2.2.1) fun v111 =>
            obind (f74 v111 (wrapF .i64 (1 + v1))) fun v113 =>
            obind (f76 d107.2.2.1 (wrapF .i64 (1 + v1))) fun v115 =>
            cond (decide ((wrapF .i64 ((wrapF .i64 ((wrapF .i64 ((wrapF .i64 ((wrapF .i64 ((wrapF .i64 ((wrapF .i64 (v16.2.2 + v18.2)) + v22.2)) + v24.2.2)) + v26.2.2)) + v109.2)) + v113.2.2)) + v115.2)) = 0))
             (cond (decide (v22.1 = v16.2.1))
               (cond (decide (v16.2.1 < v18.1))
                 (some false)
                 (cond (decide (v109.1 < v16.2.1))
                   (some false)
                   (cond (decide (v16.2.1 < v24.2.1))
                     (some false)
                     (cond (decide (v26.2.1 = d107.2.2.2.2.1))
                       (cond (decide (v113.2.1 = v16.2.1))
                         (cond (decide (v115.1 = v18.1))
                           (cond (decide (0 < ((a0.getD []).length : Int)))
                             (obind (cutSO a0 (some 1) none) fun v126 =>
                              obind (E62 v126) fun v128 =>
                              obind (f74 v128 (wrapF .i64 (1 + v1))) fun v130 =>
                              cond (decide (v130.2.2 = 0))
                               (cond (decide (v16.2.1 < v130.2.1))
                                 (some false)
                                 (some (decide (d107.2.2.2.2.1 ≤ (wrapF .i64 (v18.1 * (wrapF .i64 (1 + v1))))))))
                               (some false))
                             (some (decide (d107.2.2.2.2.1 ≤ (wrapF .i64 (v18.1 * (wrapF .i64 (1 + v1))))))))
                           (some false))
                         (some false))
                       (some false)))))
               (some false))
             (some false)))
         (some v3))
       (some v3)))
   (some v3)
theorem W12 {a0 : Option (List Int)} {a1 : Option (List Int)} {a2 : GPair8} {r} (h : f12 a0 a1 a2 = some r) : callIso prL (X prL) 12 [sl 1 vint a0, sl 1 (vintk .u8) a1, .agg [.int .u8 a2.a, .int .u8 a2.b]] = some (.bool r, false) := by
  unfold f12 at h
  obtain ⟨v1, h2, h⟩ := obind_some h
  obtain ⟨v3, h4, h⟩ := obind_some h
  have wh4 : callIso prL (X prL) 14 [] = some (.bool v3, false) := M14 h4
  rcases cond_split h with ⟨h5, h⟩ | ⟨h5, h⟩
  · rcases cond_split h with ⟨h6, h⟩ | ⟨h6, h⟩
    · have hr : v3 = r := Option.some.inj h
      subst hr
      have this : ∃ hh, callFn prL (X prL) 12 [sl 1 vint a0, sl 1 (vintk .u8) a1, .agg [.int .u8 a2.a, .int .u8 a2.b]] [] = some (.bool v3, false, hh) := by
        rw [callFn_at (show prL.fns 12 = some c12 from rfl) (by simp)]
        simp only [go_sem, seval, c12, b_rem_O h2, wh4, h5, h6]
        exact ⟨_, rfl⟩
      obtain ⟨hh, this⟩ := this
      exact callIso_of rfl this (by first | rfl | simp only [go_sem, seval]) (by first | rfl | simp only [go_sem, seval])
    · obtain ⟨v7, h8, h⟩ := obind_some h
      have wh8 : callIso prL (X prL) 77 [sl 1 vint a0, .int .i64 (wrapF .i64 (1 + v1))] = some (.int .i64 v7, false) := M77 h8
      rcases cond_split h with ⟨h9, h⟩ | ⟨h9, h⟩
      · obtain ⟨v10, h11, h⟩ := obind_some h
        have wh11 : callIso prL (X prL) 82 [sl 1 vint a0, .int .i64 1, .int .i64 1000] = some (.int .i64 v10, false) := M82 h11
        rcases cond_split h with ⟨h12, h⟩ | ⟨h12, h⟩
        · rcases cond_split h with ⟨h13, h⟩ | ⟨h13, h⟩
          · have hr : v3 = r := Option.some.inj h
            subst hr
            have this : ∃ hh, callFn prL (X prL) 12 [sl 1 vint a0, sl 1 (vintk .u8) a1, .agg [.int .u8 a2.a, .int .u8 a2.b]] [] = some (.bool v3, false, hh) := by
              rw [callFn_at (show prL.fns 12 = some c12 from rfl) (by simp)]
              simp only [go_sem, seval, c12, b_rem_O h2, wh4, h5, h6, wh8, h9, wh11, h12, h13]
              exact ⟨_, rfl⟩
            obtain ⟨hh, this⟩ := this
            exact callIso_of rfl this (by first | rfl | simp only [go_sem, seval]) (by first | rfl | simp only [go_sem, seval])
          · obtain ⟨v14, h15, h⟩ := obind_some h
            have wh15 : callIso prL (X prL) 62 [sl 1 vint a0] = some (sl 1 vint v14, true) := M62 h15
            obtain ⟨v16, h17, h⟩ := obind_some h
            have wh17 : callIso prL (X prL) 74 [sl 1 vint v14, .int .i64 (wrapF .i64 (1 + v1))] = some (.tup [sl 1 vint v16.1, .int .i64 v16.2.1, .int .i64 v16.2.2], false) := M74 h17
            obtain ⟨v18, h19, h⟩ := obind_some h
            have wh19 : callIso prL (X prL) 76 [sl 1 vint v14, .int .i64 (wrapF .i64 (1 + v1))] = some (.tup [.int .i64 v18.1, .int .i64 v18.2], false) := M76 h19
            obtain ⟨v20, h21, h⟩ := obind_some h
            have wh21 : callIso prL (X prL) 62 [sl 1 vint v16.1] = some (sl 1 vint v20, true) := M62 h21
            obtain ⟨v22, h23, h⟩ := obind_some h
            have wh23 : callIso prL (X prL) 75 [sl 1 vint v14, .int .i64 (wrapF .i64 (1 + v1)), sl 1 vint v20] = some (.tup [.int .i64 v22.1, .int .i64 v22.2], false) := M75 h23
            obtain ⟨v24, h25, h⟩ := obind_some h
            have wh25 : callIso prL (X prL) 74 [sl 1 vint v14, .int .i64 (wrapF .i64 ((wrapF .i64 (1 + v1)) + 1))] = some (.tup [sl 1 vint v24.1, .int .i64 v24.2.1, .int .i64 v24.2.2], false) := M74 h25
            obtain ⟨v26, h27, h⟩ := obind_some h
            have wh27 : callIso prL (X prL) 74 [sl 1 vint v14, .int .i64 1] = some (.tup [sl 1 vint v26.1, .int .i64 v26.2.1, .int .i64 v26.2.2], false) := M74 h27
            obtain ⟨v28, h29, h⟩ := obind_some h
            have wh29 : callIso prL (X prL) 55 [.int .i64 (wrapF .i64 (1 + (wrapF .i64 a2.b))), .int .i64 ((a0.getD []).length : Int)] = some (sl 1 vint v28, false) := WE55 h29
            obtain ⟨d107, h108, h⟩ := obind_some h
            have wh108 : X prL (.loop c12_0) ⟨[(0, sl 1 vint a0, false), (1, sl 1 (vintk .u8) a1, false), (7, .int .i64 (wrapF .i64 (1 + v1)), false), (9, .int .i64 v16.2.1, false), (10, .int .i64 v16.2.2, false), (11, .int .i64 v18.1, false), (12, .int .i64 v18.2, false), (13, .int .i64 v22.1, false), (14, .int .i64 v22.2, false), (16, .int .i64 v24.2.1, false), (17, .int .i64 v24.2.2, false), (19, .int .i64 v26.2.1, false), (20, .int .i64 v26.2.2, false), (21, .list true 0 [], false), (22, .list true 0 [], false), (23, .int .i64 0, false), (24, sl 1 vint v28, false), (115, sl 1 vint a0, false), (116, .int .i64 ((a0.getD []).length : Int), false), (117, .int .i64 0, false)], [.cells [(.int .u8 a2.a, false), (.int .u8 a2.b, false)]]⟩ = some (.exit 0, ⟨[(0, sl 1 vint a0, false), (1, sl 1 (vintk .u8) a1, false), (7, .int .i64 (wrapF .i64 (1 + v1)), false), (9, .int .i64 v16.2.1, false), (10, .int .i64 v16.2.2, false), (11, .int .i64 v18.1, false), (12, .int .i64 v18.2, false), (13, .int .i64 v22.1, false), (14, .int .i64 v22.2, false), (16, .int .i64 v24.2.1, false), (17, .int .i64 v24.2.2, false), (19, .int .i64 v26.2.1, false), (20, .int .i64 v26.2.2, false), (21, sl 1 vint d107.1, d107.2.1), (22, sl 1 vint d107.2.2.1, d107.2.2.2.1), (23, .int .i64 d107.2.2.2.2.1, false), (24, sl 1 vint v28, false), (115, sl 1 vint a0, false), (116, .int .i64 ((a0.getD []).length : Int), false), (117, .int .i64 d107.2.2.2.2.2, false), (118, .bool false, false)], [.cells [(.int .u8 a2.a, false), (.int .u8 a2.b, false)]]⟩) := l12_0 a0 a1 a2 v1 v16 v18 v22 v24 v26 v28 h108
            obtain ⟨v109, h110, h⟩ := obind_some h
            have wh110 : callIso prL (X prL) 75 [sl 1 vint v14, .int .i64 (wrapF .i64 (1 + v1)), sl 1 vint d107.1] = some (.tup [.int .i64 v109.1, .int .i64 v109.2], false) := M75 h110
            obtain ⟨v111, h112, h⟩ := obind_some h
            have wh112 : callIso prL (X prL) 62 [sl 1 vint d107.2.2.1] = some (sl 1 vint v111, true) := M62 h112
            obtain ⟨v113, h114, h⟩ := obind_some h
            have wh114 : callIso prL (X prL) 74 [sl 1 vint v111, .int .i64 (wrapF .i64 (1 + v1))] = some (.tup [sl 1 vint v113.1, .int .i64 v113.2.1, .int .i64 v113.2.2], false) := M74 h114
            obtain ⟨v115, h116, h⟩ := obind_some h
            have wh116 : callIso prL (X prL) 76 [sl 1 vint d107.2.2.1, .int .i64 (wrapF .i64 (1 + v1))] = some (.tup [.int .i64 v115.1, .int .i64 v115.2], false) := M76 h116
            rcases cond_split h with ⟨h117, h⟩ | ⟨h117, h⟩
            · rcases cond_split h with ⟨h118, h⟩ | ⟨h118, h⟩
              · rcases cond_split h with ⟨h119, h⟩ | ⟨h119, h⟩
                · have hr : false = r := Option.some.inj h
                  subst hr
                  have this : ∃ hh, callFn prL (X prL) 12 [sl 1 vint a0, sl 1 (vintk .u8) a1, .agg [.int .u8 a2.a, .int .u8 a2.b]] [] = some (.bool false, false, hh) := by
                    rw [callFn_at (show prL.fns 12 = some c12 from rfl) (by simp)]
                    simp only [go_sem, seval, c12, b_rem_O h2, wh4, h5, h6, wh8, h9, wh11, h12, h13, wh15, wh17, wh19, wh21, wh23, wh25, wh27, wh29, wh108, wh110, wh112, wh114, wh116, h117, h118, h119]
                    exact ⟨_, rfl⟩
                  obtain ⟨hh, this⟩ := this
                  exact callIso_of rfl this (by first | rfl | simp only [go_sem, seval]) (by first | rfl | simp only [go_sem, seval])
                · rcases cond_split h with ⟨h120, h⟩ | ⟨h120, h⟩
                  · have hr : false = r := Option.some.inj h
                    subst hr
                    have this : ∃ hh, callFn prL (X prL) 12 [sl 1 vint a0, sl 1 (vintk .u8) a1, .agg [.int .u8 a2.a, .int .u8 a2.b]] [] = some (.bool false, false, hh) := by
                      rw [callFn_at (show prL.fns 12 = some c12 from rfl) (by simp)]
                      simp only [go_sem, seval, c12, b_rem_O h2, wh4, h5, h6, wh8, h9, wh11, h12, h13, wh15, wh17, wh19, wh21, wh23, wh25, wh27, wh29, wh108, wh110, wh112, wh114, wh116, h117, h118, h119, h120]
                      exact ⟨_, rfl⟩
                    obtain ⟨hh, this⟩ := this
                    exact callIso_of rfl this (by first | rfl | simp only [go_sem, seval]) (by first | rfl | simp only [go_sem, seval])
                  · rcases cond_split h with ⟨h121, h⟩ | ⟨h121, h⟩
                    · have hr : false = r := Option.some.inj h
                      subst hr
                      have this : ∃ hh, callFn prL (X prL) 12 [sl 1 vint a0, sl 1 (vintk .u8) a1, .agg [.int .u8 a2.a, .int .u8 a2.b]] [] = some (.bool false, false, hh) := by
                        rw [callFn_at (show prL.fns 12 = some c12 from rfl) (by simp)]
                        simp only [go_sem, seval, c12, b_rem_O h2, wh4, h5, h6, wh8, h9, wh11, h12, h13, wh15, wh17, wh19, wh21, wh23, wh25, wh27, wh29, wh108, wh110, wh112, wh114, wh116, h117, h118, h119, h120, h121]
                        exact ⟨_, rfl⟩
                      obtain ⟨hh, this⟩ := this
                      exact callIso_of rfl this (by first | rfl | simp only [go_sem, seval]) (by first | rfl | simp only [go_sem, seval])
                    · rcases cond_split h with ⟨h122, h⟩ | ⟨h122, h⟩
                      · rcases cond_split h with ⟨h123, h⟩ | ⟨h123, h⟩
                        · rcases cond_split h with ⟨h124, h⟩ | ⟨h124, h⟩
                          · rcases cond_split h with ⟨h125, h⟩ | ⟨h125, h⟩
                            · obtain ⟨v126, h127, h⟩ := obind_some h
                              obtain ⟨v128, h129, h⟩ := obind_some h
                              have wh129 : callIso prL (X prL) 62 [sl 1 vint v126] = some (sl 1 vint v128, true) := M62 h129
                              obtain ⟨v130, h131, h⟩ := obind_some h
                              have wh131 : callIso prL (X prL) 74 [sl 1 vint v128, .int .i64 (wrapF .i64 (1 + v1))] = some (.tup [sl 1 vint v130.1, .int .i64 v130.2.1, .int .i64 v130.2.2], false) := M74 h131
                              rcases cond_split h with ⟨h132, h⟩ | ⟨h132, h⟩
                              · rcases cond_split h with ⟨h133, h⟩ | ⟨h133, h⟩
                                · have hr : false = r := Option.some.inj h
                                  subst hr
                                  have this : ∃ hh, callFn prL (X prL) 12 [sl 1 vint a0, sl 1 (vintk .u8) a1, .agg [.int .u8 a2.a, .int .u8 a2.b]] [] = some (.bool false, false, hh) := by
                                    rw [callFn_at (show prL.fns 12 = some c12 from rfl) (by simp)]
                                    simp only [go_sem, seval, c12, b_rem_O h2, wh4, h5, h6, wh8, h9, wh11, h12, h13, wh15, wh17, wh19, wh21, wh23, wh25, wh27, wh29, wh108, wh110, wh112, wh114, wh116, h117, h118, h119, h120, h121, h122, h123, h124, h125, slCut_l h127, wh129, wh131, h132, h133]
                                    exact ⟨_, rfl⟩
                                  obtain ⟨hh, this⟩ := this
                                  exact callIso_of rfl this (by first | rfl | simp only [go_sem, seval]) (by first | rfl | simp only [go_sem, seval])
                                · have hr : decide (d107.2.2.2.2.1 ≤ (wrapF .i64 (v18.1 * (wrapF .i64 (1 + v1))))) = r := Option.some.inj h
                                  subst hr
                                  have this : ∃ hh, callFn prL (X prL) 12 [sl 1 vint a0, sl 1 (vintk .u8) a1, .agg [.int .u8 a2.a, .int .u8 a2.b]] [] = some (.bool (decide (d107.2.2.2.2.1 ≤ (wrapF .i64 (v18.1 * (wrapF .i64 (1 + v1)))))), false, hh) := by
                                    rw [callFn_at (show prL.fns 12 = some c12 from rfl) (by simp)]
                                    simp only [go_sem, seval, c12, b_rem_O h2, wh4, h5, h6, wh8, h9, wh11, h12, h13, wh15, wh17, wh19, wh21, wh23, wh25, wh27, wh29, wh108, wh110, wh112, wh114, wh116, h117, h118, h119, h120, h121, h122, h123, h124, h125, slCut_l h127, wh129, wh131, h132, h133]
                                    exact ⟨_, rfl⟩
                                  obtain ⟨hh, this⟩ := this
                                  exact callIso_of rfl this (by first | rfl | simp only [go_sem, seval]) (by first | rfl | simp only [go_sem, seval])
                              · have hr : false = r := Option.some.inj h
                                subst hr
                                have this : ∃ hh, callFn prL (X prL) 12 [sl 1 vint a0, sl 1 (vintk .u8) a1, .agg [.int .u8 a2.a, .int .u8 a2.b]] [] = some (.bool false, false, hh) := by
                                  rw [callFn_at (show prL.fns 12 = some c12 from rfl) (by simp)]
                                  simp only [go_sem, seval, c12, b_rem_O h2, wh4, h5, h6, wh8, h9, wh11, h12, h13, wh15, wh17, wh19, wh21, wh23, wh25, wh27, wh29, wh108, wh110, wh112, wh114, wh116, h117, h118, h119, h120, h121, h122, h123, h124, h125, slCut_l h127, wh129, wh131, h132]
                                  exact ⟨_, rfl⟩
                                obtain ⟨hh, this⟩ := this
                                exact callIso_of rfl this (by first | rfl | simp only [go_sem, seval]) (by first | rfl | simp only [go_sem, seval])
                            · have hr : decide (d107.2.2.2.2.1 ≤ (wrapF .i64 (v18.1 * (wrapF .i64 (1 + v1))))) = r := Option.some.inj h
                              subst hr
                              have this : ∃ hh, callFn prL (X prL) 12 [sl 1 vint a0, sl 1 (vintk .u8) a1, .agg [.int .u8 a2.a, .int .u8 a2.b]] [] = some (.bool (decide (d107.2.2.2.2.1 ≤ (wrapF .i64 (v18.1 * (wrapF .i64 (1 + v1)))))), false, hh) := by
                                rw [callFn_at (show prL.fns 12 = some c12 from rfl) (by simp)]
                                simp only [go_sem, seval, c12, b_rem_O h2, wh4, h5, h6, wh8, h9, wh11, h12, h13, wh15, wh17, wh19, wh21, wh23, wh25, wh27, wh29, wh108, wh110, wh112, wh114, wh116, h117, h118, h119, h120, h121, h122, h123, h124, h125]
                                exact ⟨_, rfl⟩
                              obtain ⟨hh, this⟩ := this
                              exact callIso_of rfl this (by first | rfl | simp only [go_sem, seval]) (by first | rfl | simp only [go_sem, seval])
                          · have hr : false = r := Option.some.inj h
                            subst hr
                            have this : ∃ hh, callFn prL (X prL) 12 [sl 1 vint a0, sl 1 (vintk .u8) a1, .agg [.int .u8 a2.a, .int .u8 a2.b]] [] = some (.bool false, false, hh) := by
                              rw [callFn_at (show prL.fns 12 = some c12 from rfl) (by simp)]
                              simp only [go_sem, seval, c12, b_rem_O h2, wh4, h5, h6, wh8, h9, wh11, h12, h13, wh15, wh17, wh19, wh21, wh23, wh25, wh27, wh29, wh108, wh110, wh112, wh114, wh116, h117, h118, h119, h120, h121, h122, h123, h124]
                              exact ⟨_, rfl⟩
                            obtain ⟨hh, this⟩ := this
                            exact callIso_of rfl this (by first | rfl | simp only [go_sem, seval]) (by first | rfl | simp only [go_sem, seval])
                        · have hr : false = r := Option.some.inj h
                          subst hr
                          have this : ∃ hh, callFn prL (X prL) 12 [sl 1 vint a0, sl 1 (vintk .u8) a1, .agg [.int .u8 a2.a, .int .u8 a2.b]] [] = some (.bool false, false, hh) := by
                            rw [callFn_at (show prL.fns 12 = some c12 from rfl) (by simp)]
                            simp only [go_sem, seval, c12, b_rem_O h2, wh4, h5, h6, wh8, h9, wh11, h12, h13, wh15, wh17, wh19, wh21, wh23, wh25, wh27, wh29, wh108, wh110, wh112, wh114, wh116, h117, h118, h119, h120, h121, h122, h123]
                            exact ⟨_, rfl⟩
                          obtain ⟨hh, this⟩ := this
                          exact callIso_of rfl this (by first | rfl | simp only [go_sem, seval]) (by first | rfl | simp only [go_sem, seval])
                      · have hr : false = r := Option.some.inj h
                        subst hr
                        have this : ∃ hh, callFn prL (X prL) 12 [sl 1 vint a0, sl 1 (vintk .u8) a1, .agg [.int .u8 a2.a, .int .u8 a2.b]] [] = some (.bool false, false, hh) := by
                          rw [callFn_at (show prL.fns 12 = some c12 from rfl) (by simp)]
                          simp only [go_sem, seval, c12, b_rem_O h2, wh4, h5, h6, wh8, h9, wh11, h12, h13, wh15, wh17, wh19, wh21, wh23, wh25, wh27, wh29, wh108, wh110, wh112, wh114, wh116, h117, h118, h119, h120, h121, h122]
                          exact ⟨_, rfl⟩
                        obtain ⟨hh, this⟩ := this
                        exact callIso_of rfl this (by first | rfl | simp only [go_sem, seval]) (by first | rfl | simp only [go_sem, seval])
              · have hr : false = r := Option.some.inj h
                subst hr
                have this : ∃ hh, callFn prL (X prL) 12 [sl 1 vint a0, sl 1 (vintk .u8) a1, .agg [.int .u8 a2.a, .int .u8 a2.b]] [] = some (.bool false, false, hh) := by
                  rw [callFn_at (show prL.fns 12 = some c12 from rfl) (by simp)]
                  simp only [go_sem, seval, c12, b_rem_O h2, wh4, h5, h6, wh8, h9, wh11, h12, h13, wh15, wh17, wh19, wh21, wh23, wh25, wh27, wh29, wh108, wh110, wh112, wh114, wh116, h117, h118]
                  exact ⟨_, rfl⟩
                obtain ⟨hh, this⟩ := this
                exact callIso_of rfl this (by first | rfl | simp only [go_sem, seval]) (by first | rfl | simp only [go_sem, seval])
            · have hr : false = r := Option.some.inj h
              subst hr
              have this : ∃ hh, callFn prL (X prL) 12 [sl 1 vint a0, sl 1 (vintk .u8) a1, .agg [.int .u8 a2.a, .int .u8 a2.b]] [] = some (.bool false, false, hh) := by
                rw [callFn_at (show prL.fns 12 = some c12 from rfl) (by simp)]
                simp only [go_sem, seval, c12, b_rem_O h2, wh4, h5, h6, wh8, h9, wh11, h12, h13, wh15, wh17, wh19, wh21, wh23, wh25, wh27, wh29, wh108, wh110, wh112, wh114, wh116, h117]
                exact ⟨_, rfl⟩
              obtain ⟨hh, this⟩ := this
              exact callIso_of rfl this (by first | rfl | simp only [go_sem, seval]) (by first | rfl | simp only [go_sem, seval])
        · have hr : v3 = r := Option.some.inj h
          subst hr
          have this : ∃ hh, callFn prL (X prL) 12 [sl 1 vint a0, sl 1 (vintk .u8) a1, .agg [.int .u8 a2.a, .int .u8 a2.b]] [] = some (.bool v3, false, hh) := by
            rw [callFn_at (show prL.fns 12 = some c12 from rfl) (by simp)]
            simp only [go_sem, seval, c12, b_rem_O h2, wh4, h5, h6, wh8, h9, wh11, h12]
            exact ⟨_, rfl⟩
          obtain ⟨hh, this⟩ := this
          exact callIso_of rfl this (by first | rfl | simp only [go_sem, seval]) (by first | rfl | simp only [go_sem, seval])
      · have hr : v3 = r := Option.some.inj h
        subst hr
        have this : ∃ hh, callFn prL (X prL) 12 [sl 1 vint a0, sl 1 (vintk .u8) a1, .agg [.int .u8 a2.a, .int .u8 a2.b]] [] = some (.bool v3, false, hh) := by
          rw [callFn_at (show prL.fns 12 = some c12 from rfl) (by simp)]
          simp only [go_sem, seval, c12, b_rem_O h2, wh4, h5, h6, wh8, h9]
          exact ⟨_, rfl⟩
        obtain ⟨hh, this⟩ := this
        exact callIso_of rfl this (by first | rfl | simp only [go_sem, seval]) (by first | rfl | simp only [go_sem, seval])
  · have hr : v3 = r := Option.some.inj h
    subst hr
    have this : ∃ hh, callFn prL (X prL) 12 [sl 1 vint a0, sl 1 (vintk .u8) a1, .agg [.int .u8 a2.a, .int .u8 a2.b]] [] = some (.bool v3, false, hh) := by
      rw [callFn_at (show prL.fns 12 = some c12 from rfl) (by simp)]
      simp only [go_sem, seval, c12, b_rem_O h2, wh4, h5]
      exact ⟨_, rfl⟩
    obtain ⟨hh, this⟩ := this
    exact callIso_of rfl this (by first | rfl | simp only [go_sem, seval]) (by first | rfl | simp only [go_sem, seval])
end Go.Z
