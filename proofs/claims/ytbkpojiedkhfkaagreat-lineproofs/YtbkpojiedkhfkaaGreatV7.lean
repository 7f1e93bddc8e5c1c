/-
  LineProofs: the law: a function that mirrors the run, and the run (printed by walk.py).
-/
import Derived.Test.YtbkpojiedkhfkaaGreatV6
set_option linter.unusedVariables false
set_option linter.unusedSimpArgs false
set_option maxRecDepth 100000
set_option linter.unusedSimpArgs false
set_option linter.unusedVariables false
set_option maxHeartbeats 4000000
namespace Go.Z
open Go Go.Abs
noncomputable def j9_9 (a0 : Option (List GUnit)) (a1 : Int) (a2 : Option (List Int)) (p7 : Option (List Int)) (p8 : Int) (p9 : Int) (p11 : Int) (p12 : Int) (p13 : Option (List Int)) (p75 : Bool) : Option Bool :=
  cond p75
   (obind (f65 a0 a1 a2) fun v36 =>
    obind (E39 p7 p13) fun v38 =>
    cond v38
     (cond (decide (p8 = p11))
       (some (decide (p9 = v36)))
       (some false))
     (some false))
   (obind (E39 p7 p13) fun v42 =>
    cond v42
     (cond (decide (p8 = p11))
       (some (decide (p9 = p12)))
       (some false))
     (some false))
theorem J9_9 {a0 : Option (List GUnit)} {a1 : Int} {a2 : Option (List Int)} {p7 : Option (List Int)} {p8 : Int} {p9 : Int} {p11 : Int} {p12 : Int} {p13 : Option (List Int)} {p75 : Bool} {r} (h : j9_9 a0 a1 a2 p7 p8 p9 p11 p12 p13 p75 = some r) : ∃ hh, thenX (X pr c9_c9 ⟨[(0, sl 2 vunit a0, false), (1, .int .i64 a1, false), (2, sl 1 vint a2, false), (7, sl 1 vint p7, false), (8, .int .i64 p8, false), (9, .int .i64 p9, false), (11, .int .i64 p11, false), (12, .int .i64 p12, false), (13, sl 1 vint p13, false), (75, .bool p75, false)], []⟩) (X pr c9_k10) = some (.ret, ⟨[(6, .bool r, false)], hh⟩) := by
  unfold j9_9 at h
  rcases cond_split h with ⟨h35, h⟩ | ⟨h35, h⟩
  · obtain ⟨v36, h37, h⟩ := obind_some h
    have wh37 : callIso pr (X pr) 65 [sl 2 vunit a0, .int .i64 a1, sl 1 vint a2] = some (.int .i64 v36, false) := W65 h37
    obtain ⟨v38, h39, h⟩ := obind_some h
    have wh39 : callIso pr (X pr) 39 [sl 1 vint p7, sl 1 vint p13] = some (.bool v38, false) := WE39 h39
    rcases cond_split h with ⟨h40, h⟩ | ⟨h40, h⟩
    · rcases cond_split h with ⟨h41, h⟩ | ⟨h41, h⟩
      · have hr : decide (p9 = v36) = r := Option.some.inj h
        subst hr
        refine ⟨[], ?_⟩
        simp only [go_sem, seval, c9_c9, c9_k10, h35, wh37, wh39, h40, h41] <;> rfl
      · have hr : false = r := Option.some.inj h
        subst hr
        refine ⟨[], ?_⟩
        simp only [go_sem, seval, c9_c9, c9_k10, h35, wh37, wh39, h40, h41] <;> rfl
    · have hr : false = r := Option.some.inj h
      subst hr
      refine ⟨[], ?_⟩
      simp only [go_sem, seval, c9_c9, c9_k10, h35, wh37, wh39, h40] <;> rfl
  · obtain ⟨v42, h43, h⟩ := obind_some h
    have wh43 : callIso pr (X pr) 39 [sl 1 vint p7, sl 1 vint p13] = some (.bool v42, false) := WE39 h43
    rcases cond_split h with ⟨h44, h⟩ | ⟨h44, h⟩
    · rcases cond_split h with ⟨h45, h⟩ | ⟨h45, h⟩
      · have hr : decide (p9 = p12) = r := Option.some.inj h
        subst hr
        refine ⟨[], ?_⟩
        simp only [go_sem, seval, c9_c9, c9_k10, h35, wh43, h44, h45] <;> rfl
      · have hr : false = r := Option.some.inj h
        subst hr
        refine ⟨[], ?_⟩
        simp only [go_sem, seval, c9_c9, c9_k10, h35, wh43, h44, h45] <;> rfl
    · have hr : false = r := Option.some.inj h
      subst hr
      refine ⟨[], ?_⟩
      simp only [go_sem, seval, c9_c9, c9_k10, h35, wh43, h44] <;> rfl
noncomputable def j9_8 (a0 : Option (List GUnit)) (a1 : Int) (a2 : Option (List Int)) (p7 : Option (List Int)) (p8 : Int) (p9 : Int) (p11 : Int) (p12 : Int) (p67 : Bool) : Option Bool :=
  cond p67
   (obind (f64 a0 a1) fun v33 =>
    j9_9 a0 a1 a2 p7 p8 p9 v33.2 p12 v33.1 (decide (p12 = 0)))
   (j9_9 a0 a1 a2 p7 p8 p9 p11 p12 none (decide (p12 = 0)))
theorem J9_8 {a0 : Option (List GUnit)} {a1 : Int} {a2 : Option (List Int)} {p7 : Option (List Int)} {p8 : Int} {p9 : Int} {p11 : Int} {p12 : Int} {p67 : Bool} {r} (h : j9_8 a0 a1 a2 p7 p8 p9 p11 p12 p67 = some r) : ∃ hh, thenX (X pr c9_c8 ⟨[(0, sl 2 vunit a0, false), (1, .int .i64 a1, false), (2, sl 1 vint a2, false), (7, sl 1 vint p7, false), (8, .int .i64 p8, false), (9, .int .i64 p9, false), (11, .int .i64 p11, false), (12, .int .i64 p12, false), (13, .list true 0 [], false), (67, .bool p67, false)], []⟩) (X pr c9_k9) = some (.ret, ⟨[(6, .bool r, false)], hh⟩) := by
  unfold j9_8 at h
  rcases cond_split h with ⟨h32, h⟩ | ⟨h32, h⟩
  · obtain ⟨v33, h34, h⟩ := obind_some h
    have wh34 : callIso pr (X pr) 64 [sl 2 vunit a0, .int .i64 a1] = some (.tup [sl 1 vint v33.1, .int .i64 v33.2], false) := W64 h34
    obtain ⟨hh, hk⟩ := J9_9 h
    refine ⟨hh, ?_⟩
    simp only [go_sem, seval, c9_c8, c9_k9, h32, wh34]
    exact hk
  · obtain ⟨hh, hk⟩ := J9_9 h
    refine ⟨hh, ?_⟩
    simp only [go_sem, seval, c9_c8, c9_k9, h32]
    exact hk
noncomputable def j9_1 (a0 : Option (List GUnit)) (a1 : Int) (a2 : Option (List Int)) (p35 : Bool) : Option Bool :=
  cond p35
   (obind (E14) fun v12 =>
    some v12)
   (obind (E18 a0) fun v14 =>
    obind (f60 v14 a1) fun v16 =>
    obind (E62 a2) fun v18 =>
    obind (f61 v14 a1 v18) fun v20 =>
    obind (E22 a0) fun v22 =>
    obind (E24 (decide (8 < ((a0.getD []).length : Int))) 23) fun v24 =>
    obind (f63 a1) fun v26 =>
    obind (E21 (some [v22, v24, v26])) fun v28 =>
    obind (E21 (some [v22, v26])) fun v30 =>
    j9_8 a0 a1 a2 v16.1 v16.2 v20 v28 v30 (decide (v28 = 0)))
theorem J9_1 {a0 : Option (List GUnit)} {a1 : Int} {a2 : Option (List Int)} {p35 : Bool} {r} (h : j9_1 a0 a1 a2 p35 = some r) : ∃ hh, thenX (X pr c9_c1 ⟨[(0, sl 2 vunit a0, false), (1, .int .i64 a1, false), (2, sl 1 vint a2, false), (35, .bool p35, false)], []⟩) (X pr c9_k2) = some (.ret, ⟨[(6, .bool r, false)], hh⟩) := by
  unfold j9_1 at h
  rcases cond_split h with ⟨h11, h⟩ | ⟨h11, h⟩
  · obtain ⟨v12, h13, h⟩ := obind_some h
    have wh13 : callIso pr (X pr) 14 [] = some (.bool v12, false) := WE14 h13
    have hr : v12 = r := Option.some.inj h
    subst hr
    refine ⟨[], ?_⟩
    simp only [go_sem, seval, c9_c1, c9_k2, h11, wh13] <;> rfl
  · obtain ⟨v14, h15, h⟩ := obind_some h
    have wh15 : callIso pr (X pr) 18 [sl 2 vunit a0] = some (sl 2 vunit v14, (accO (a0.getD []))) := WE18 h15
    obtain ⟨v16, h17, h⟩ := obind_some h
    have wh17 : callIso pr (X pr) 60 [sl 2 vunit v14, .int .i64 a1] = some (.tup [sl 1 vint v16.1, .int .i64 v16.2], false) := W60 h17
    obtain ⟨v18, h19, h⟩ := obind_some h
    have wh19 : callIso pr (X pr) 62 [sl 1 vint a2] = some (sl 1 vint v18, true) := WE62 h19
    obtain ⟨v20, h21, h⟩ := obind_some h
    have wh21 : callIso pr (X pr) 61 [sl 2 vunit v14, .int .i64 a1, sl 1 vint v18] = some (.int .i64 v20, false) := W61 h21
    obtain ⟨v22, h23, h⟩ := obind_some h
    have wh23 : callIso pr (X pr) 22 [sl 2 vunit a0] = some (.int .i64 v22, false) := WE22 h23
    obtain ⟨v24, h25, h⟩ := obind_some h
    have wh25 : callIso pr (X pr) 24 [.bool (decide (8 < ((a0.getD []).length : Int))), .int .i64 23] = some (.int .i64 v24, false) := WE24 h25
    obtain ⟨v26, h27, h⟩ := obind_some h
    have wh27 : callIso pr (X pr) 63 [.int .i64 a1] = some (.int .i64 v26, false) := W63 h27
    obtain ⟨v28, h29, h⟩ := obind_some h
    have wh29 : callIso pr (X pr) 21 [.list false 1 [.int .i64 v22, .int .i64 v24, .int .i64 v26]] = some (.int .i64 v28, false) := WE21 h29
    obtain ⟨v30, h31, h⟩ := obind_some h
    have wh31 : callIso pr (X pr) 21 [.list false 1 [.int .i64 v22, .int .i64 v26]] = some (.int .i64 v30, false) := WE21 h31
    obtain ⟨hh, hk⟩ := J9_8 h
    refine ⟨hh, ?_⟩
    simp only [go_sem, seval, c9_c1, c9_k2, h11, wh15, wh17, wh19, wh21, wh23, wh25, wh27, wh29, wh31]
    exact hk
noncomputable def f9 (a0 : Option (List GUnit)) (a1 : Int) (a2 : Option (List Int)) : Option Bool :=
  obind (E14) fun v1 =>
  cond v1
   (obind (E15 a0 7) fun v4 =>
    cond v4
     (j9_1 a0 a1 a2 (decide (10 < ((a2.getD []).length : Int))))
     (cond (decide (((a0.getD []).length : Int) = 9))
       (obind (E15 a0 9) fun v8 =>
        cond v8
         (j9_1 a0 a1 a2 (decide (10 < ((a2.getD []).length : Int))))
         (j9_1 a0 a1 a2 true))
       (j9_1 a0 a1 a2 true)))
   (j9_1 a0 a1 a2 true)
theorem W9 {a0 : Option (List GUnit)} {a1 : Int} {a2 : Option (List Int)} {r} (h : f9 a0 a1 a2 = some r) : callIso pr (X pr) 9 [sl 2 vunit a0, .int .i64 a1, sl 1 vint a2] = some (.bool r, false) := by
  unfold f9 at h
  obtain ⟨v1, h2, h⟩ := obind_some h
  have wh2 : callIso pr (X pr) 14 [] = some (.bool v1, false) := WE14 h2
  rcases cond_split h with ⟨h3, h⟩ | ⟨h3, h⟩
  · obtain ⟨v4, h5, h⟩ := obind_some h
    have wh5 : callIso pr (X pr) 15 [sl 2 vunit a0, .int .i64 7] = some (.bool v4, false) := WE15 h5
    rcases cond_split h with ⟨h6, h⟩ | ⟨h6, h⟩
    · obtain ⟨hh, hk⟩ := J9_1 h
      have this : callFn pr (X pr) 9 [sl 2 vunit a0, .int .i64 a1, sl 1 vint a2] [] = some (.bool r, false, hh) := by
        rw [callFn_at (show pr.fns 9 = some c9 from rfl) (by simp)]
        simp only [go_sem, seval, c9, wh2, h3, wh5, h6]
        rw [hk]
        rfl
      exact callIso_of rfl this (by first | rfl | simp only [go_sem, seval]) (by first | rfl | simp only [go_sem, seval])
    · rcases cond_split h with ⟨h7, h⟩ | ⟨h7, h⟩
      · obtain ⟨v8, h9, h⟩ := obind_some h
        have wh9 : callIso pr (X pr) 15 [sl 2 vunit a0, .int .i64 9] = some (.bool v8, false) := WE15 h9
        rcases cond_split h with ⟨h10, h⟩ | ⟨h10, h⟩
        · obtain ⟨hh, hk⟩ := J9_1 h
          have this : callFn pr (X pr) 9 [sl 2 vunit a0, .int .i64 a1, sl 1 vint a2] [] = some (.bool r, false, hh) := by
            rw [callFn_at (show pr.fns 9 = some c9 from rfl) (by simp)]
            simp only [go_sem, seval, c9, wh2, h3, wh5, h6, h7, wh9, h10]
            rw [hk]
            rfl
          exact callIso_of rfl this (by first | rfl | simp only [go_sem, seval]) (by first | rfl | simp only [go_sem, seval])
        · obtain ⟨hh, hk⟩ := J9_1 h
          have this : callFn pr (X pr) 9 [sl 2 vunit a0, .int .i64 a1, sl 1 vint a2] [] = some (.bool r, false, hh) := by
            rw [callFn_at (show pr.fns 9 = some c9 from rfl) (by simp)]
            simp only [go_sem, seval, c9, wh2, h3, wh5, h6, h7, wh9, h10]
            rw [hk]
            rfl
          exact callIso_of rfl this (by first | rfl | simp only [go_sem, seval]) (by first | rfl | simp only [go_sem, seval])
      · obtain ⟨hh, hk⟩ := J9_1 h
        have this : callFn pr (X pr) 9 [sl 2 vunit a0, .int .i64 a1, sl 1 vint a2] [] = some (.bool r, false, hh) := by
          rw [callFn_at (show pr.fns 9 = some c9 from rfl) (by simp)]
          simp only [go_sem, seval, c9, wh2, h3, wh5, h6, h7]
          rw [hk]
          rfl
        exact callIso_of rfl this (by first | rfl | simp only [go_sem, seval]) (by first | rfl | simp only [go_sem, seval])
  · obtain ⟨hh, hk⟩ := J9_1 h
    have this : callFn pr (X pr) 9 [sl 2 vunit a0, .int .i64 a1, sl 1 vint a2] [] = some (.bool r, false, hh) := by
      rw [callFn_at (show pr.fns 9 = some c9 from rfl) (by simp)]
      simp only [go_sem, seval, c9, wh2, h3]
      rw [hk]
      rfl
    exact callIso_of rfl this (by first | rfl | simp only [go_sem, seval]) (by first | rfl | simp only [go_sem, seval])
end Go.Z
