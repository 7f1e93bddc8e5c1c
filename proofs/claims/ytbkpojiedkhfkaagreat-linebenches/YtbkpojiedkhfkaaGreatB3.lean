/-
  Bounds, sorting, schedules: functions that mirror the runs, and the runs (printed by walk.py).
-/
import Derived.Test.YtbkpojiedkhfkaaGreatB2
set_option linter.unusedVariables false
set_option linter.unusedSimpArgs false
set_option maxRecDepth 100000
set_option linter.unusedSimpArgs false
set_option linter.unusedVariables false
set_option maxHeartbeats 4000000
namespace Go.Z
open Go Go.Abs
noncomputable def f128 (a0 : Int) (c0_0 : Int) : Option Bool :=
  cond (decide (a0 < 0))
   (some true)
   (some (decide (c0_0 ≤ a0)))
theorem W128 {a0 : Int} {c0_0 : Int} {r} (h : f128 a0 c0_0 = some r) : callFn pr (X pr) 128 [.int .i64 a0, .ptr 0 0] [.cells [(.int .i64 c0_0, false)]] = some (.bool r, false, [.cells [(.int .i64 c0_0, false)]]) := by
  unfold f128 at h
  rcases cond_split h with ⟨h1, h⟩ | ⟨h1, h⟩
  · have hr : true = r := Option.some.inj h
    subst hr
    rw [callFn_at (show pr.fns 128 = some c128 from rfl) (by simp)]
    simp only [go_sem, seval, c128, h1] <;> rfl
  · have hr : decide (c0_0 ≤ a0) = r := Option.some.inj h
    subst hr
    rw [callFn_at (show pr.fns 128 = some c128 from rfl) (by simp)]
    simp only [go_sem, seval, c128, h1] <;> rfl
noncomputable def s148_0 (a0 : Option (List Int)) (c0_0 : Int) (s0 : Int) : Option (Int ⊕ (Int ⊕ Int)) :=
  cond (decide (s0 < ((a0.getD []).length : Int)))
   (obind (idxO (a0.getD []) s0) fun v14 =>
    obind (f128 v14 c0_0) fun v16 =>
    cond v16
     (some (.inr (.inl s0)))
     (some (.inl (wrapF .i64 (s0 + 1)))))
   (some (.inr (.inr s0)))
def St148_0 (a0 : Option (List Int)) (c0_0 : Int) (s0 : Int) : ASt := ⟨[(0, sl 1 vint a0, false), (1, .fn (.func 128) [] [.ptr 0 0], false), (7, .int .i64 ((a0.getD []).length : Int), false), (8, .int .i64 s0, false)], [.cells [(.int .i64 c0_0, false)]]⟩
def Ex148_0 (a0 : Option (List Int)) (c0_0 : Int) : Int ⊕ Int → AExit × ASt
  | .inl d => (.ret, ⟨[(4, .int .i64 d, false)], [.cells [(.int .i64 c0_0, false)]]⟩)
  | .inr d => (.exit 0, ⟨[(0, sl 1 vint a0, false), (1, .fn (.func 128) [] [.ptr 0 0], false), (7, .int .i64 ((a0.getD []).length : Int), false), (8, .int .i64 d, false), (9, .bool false, false)], [.cells [(.int .i64 c0_0, false)]]⟩)
theorem b148_0 (a0 : Option (List Int)) (c0_0 : Int) (s0 : Int) (r) (h : s148_0 a0 c0_0 s0 = some r) : stepO pr c148_0 (St148_0 a0 c0_0) (Ex148_0 a0 c0_0) s0 r := by
  unfold s148_0 at h
  rcases cond_split h with ⟨h13, h⟩ | ⟨h13, h⟩
  · obtain ⟨v14, h15, h⟩ := obind_some h
    obtain ⟨v16, h17, h⟩ := obind_some h
    have wh17 : callFn pr (X pr) 128 [.int .i64 v14, .ptr 0 0] [.cells [(.int .i64 c0_0, false)]] = some (.bool v16, false, [.cells [(.int .i64 c0_0, false)]]) := W128 h17
    rcases cond_split h with ⟨h18, h⟩ | ⟨h18, h⟩
    · cases h
      exact stepO_out (by simp only [go_sem, seval, c148_0, St148_0, h13, idxR_O h15, wh17, h18, Ex148_0] <;> rfl)
    · cases h
      exact stepO_in (st' := ⟨[(0, sl 1 vint a0, false), (1, .fn (.func 128) [] [.ptr 0 0], false), (7, .int .i64 ((a0.getD []).length : Int), false), (8, .int .i64 (wrapF .i64 (s0 + 1)), false)], [.cells [(.int .i64 c0_0, false)]]⟩) (by simp only [go_sem, seval, c148_0, St148_0, h13, idxR_O h15, wh17, h18] <;> rfl) (gc_same (Nat.le_refl _))
  · cases h
    exact stepO_out (by simp only [go_sem, seval, c148_0, St148_0, h13, Ex148_0] <;> rfl)
theorem l148_0 (a0 : Option (List Int)) (c0_0 : Int) {s0 : Int} {d} (h : itO (s148_0 a0 c0_0) s0 = some d) : X pr (.loop c148_0) (St148_0 a0 c0_0 s0) = some (Ex148_0 a0 c0_0 d) := X_itO (b148_0 a0 c0_0) (fun d => by rcases d with d|d <;> (intro hh; cases hh)) h
noncomputable def f148 (a0 : Option (List Int)) (c0_0 : Int) : Option Int :=
  obind (itO (s148_0 a0 c0_0) 0) fun d19 => match d19 with
    | .inl d21 =>
      some d21
    | .inr d22 =>
      some (-1)
theorem W148 {a0 : Option (List Int)} {c0_0 : Int} {r} (h : f148 a0 c0_0 = some r) : callFn pr (X pr) 148 [sl 1 vint a0, .fn (.func 128) [] [.ptr 0 0]] [.cells [(.int .i64 c0_0, false)]] = some (.int .i64 r, false, [.cells [(.int .i64 c0_0, false)]]) := by
  unfold f148 at h
  obtain ⟨d19, h20, h⟩ := obind_some h
  rcases d19 with d21 | d22
  · have wh20 : X pr (.loop c148_0) ⟨[(0, sl 1 vint a0, false), (1, .fn (.func 128) [] [.ptr 0 0], false), (7, .int .i64 ((a0.getD []).length : Int), false), (8, .int .i64 0, false)], [.cells [(.int .i64 c0_0, false)]]⟩ = some (.ret, ⟨[(4, .int .i64 d21, false)], [.cells [(.int .i64 c0_0, false)]]⟩) := l148_0 a0 c0_0 h20
    have hr : d21 = r := Option.some.inj h
    subst hr
    rw [callFn_at (show pr.fns 148 = some c148 from rfl) (by simp)]
    simp only [go_sem, seval, c148, wh20] <;> rfl
  · have wh20 : X pr (.loop c148_0) ⟨[(0, sl 1 vint a0, false), (1, .fn (.func 128) [] [.ptr 0 0], false), (7, .int .i64 ((a0.getD []).length : Int), false), (8, .int .i64 0, false)], [.cells [(.int .i64 c0_0, false)]]⟩ = some (.exit 0, ⟨[(0, sl 1 vint a0, false), (1, .fn (.func 128) [] [.ptr 0 0], false), (7, .int .i64 ((a0.getD []).length : Int), false), (8, .int .i64 d22, false), (9, .bool false, false)], [.cells [(.int .i64 c0_0, false)]]⟩) := l148_0 a0 c0_0 h20
    have hr : (-1) = r := Option.some.inj h
    subst hr
    rw [callFn_at (show pr.fns 148 = some c148 from rfl) (by simp)]
    simp only [go_sem, seval, c148, wh20] <;> rfl
noncomputable def f127 (a0 : Option (List Int)) (c0_0 : Int) : Option Bool :=
  obind (f148 a0 c0_0) fun v1 =>
  some (decide (0 ≤ v1))
theorem W127 {a0 : Option (List Int)} {c0_0 : Int} {r} (h : f127 a0 c0_0 = some r) : callFn pr (X pr) 127 [sl 1 vint a0, .fn (.func 128) [] [.ptr 0 0]] [.cells [(.int .i64 c0_0, false)]] = some (.bool r, false, [.cells [(.int .i64 c0_0, false)]]) := by
  unfold f127 at h
  obtain ⟨v1, h2, h⟩ := obind_some h
  have wh2 : callFn pr (X pr) 148 [sl 1 vint a0, .fn (.func 128) [] [.ptr 0 0]] [.cells [(.int .i64 c0_0, false)]] = some (.int .i64 v1, false, [.cells [(.int .i64 c0_0, false)]]) := W148 h2
  have hr : decide (0 ≤ v1) = r := Option.some.inj h
  subst hr
  rw [callFn_at (show pr.fns 127 = some c127 from rfl) (by simp)]
  simp only [go_sem, seval, c127, wh2] <;> rfl
noncomputable def f75 (a0 : Option (List Int)) (a1 : Int) (a2 : Option (List Int)) : Option (Int × Int) :=
  obind (f125 a0 a1) fun v1 =>
  obind (E24 (!decide (((a2.getD []).length : Int) = ((a0.getD []).length : Int))) 2) fun v3 =>
  obind (f87 (some [v1, v3])) fun v5 =>
  cond (decide (v5 = 0))
   (obind (f127 a2 a1) fun v8 =>
    cond v8
     (some (0, 10))
     (obind (f129 a0 a2) fun v11 =>
      some (v11, 0)))
   (some (0, v5))
theorem W75 {a0 : Option (List Int)} {a1 : Int} {a2 : Option (List Int)} {r} (h : f75 a0 a1 a2 = some r) : callIso pr (X pr) 75 [sl 1 vint a0, .int .i64 a1, sl 1 vint a2] = some (.tup [.int .i64 r.1, .int .i64 r.2], false) := by
  unfold f75 at h
  obtain ⟨v1, h2, h⟩ := obind_some h
  have wh2 : callIso pr (X pr) 125 [sl 1 vint a0, .int .i64 a1] = some (.int .i64 v1, false) := W125 h2
  obtain ⟨v3, h4, h⟩ := obind_some h
  have wh4 : callIso pr (X pr) 89 [.bool (!decide (((a2.getD []).length : Int) = ((a0.getD []).length : Int))), .int .i64 2] = some (.int .i64 v3, false) := WE89 h4
  obtain ⟨v5, h6, h⟩ := obind_some h
  have wh6 : callIso pr (X pr) 87 [.list false 1 [.int .i64 v1, .int .i64 v3]] = some (.int .i64 v5, false) := W87 h6
  rcases cond_split h with ⟨h7, h⟩ | ⟨h7, h⟩
  · obtain ⟨v8, h9, h⟩ := obind_some h
    have wh9 : callFn pr (X pr) 127 [sl 1 vint a2, .fn (.func 128) [] [.ptr 0 0]] [.cells [(.int .i64 a1, false)]] = some (.bool v8, false, [.cells [(.int .i64 a1, false)]]) := W127 h9
    rcases cond_split h with ⟨h10, h⟩ | ⟨h10, h⟩
    · have hr : (0, 10) = r := Option.some.inj h
      subst hr
      have this : ∃ hh, callFn pr (X pr) 75 [sl 1 vint a0, .int .i64 a1, sl 1 vint a2] [] = some (.tup [.int .i64 0, .int .i64 10], false, hh) := by
        rw [callFn_at (show pr.fns 75 = some c75 from rfl) (by simp)]
        simp only [go_sem, seval, c75, wh2, wh4, wh6, h7, wh9, h10]
        exact ⟨_, rfl⟩
      obtain ⟨hh, this⟩ := this
      exact callIso_of rfl this (by first | rfl | simp only [go_sem, seval]) (by first | rfl | simp only [go_sem, seval])
    · obtain ⟨v11, h12, h⟩ := obind_some h
      have wh12 : callIso pr (X pr) 129 [sl 1 vint a0, sl 1 vint a2] = some (.int .i64 v11, false) := W129 h12
      have hr : (v11, 0) = r := Option.some.inj h
      subst hr
      have this : ∃ hh, callFn pr (X pr) 75 [sl 1 vint a0, .int .i64 a1, sl 1 vint a2] [] = some (.tup [.int .i64 v11, .int .i64 0], false, hh) := by
        rw [callFn_at (show pr.fns 75 = some c75 from rfl) (by simp)]
        simp only [go_sem, seval, c75, wh2, wh4, wh6, h7, wh9, h10, wh12]
        exact ⟨_, rfl⟩
      obtain ⟨hh, this⟩ := this
      exact callIso_of rfl this (by first | rfl | simp only [go_sem, seval]) (by first | rfl | simp only [go_sem, seval])
  · have hr : (0, v5) = r := Option.some.inj h
    subst hr
    have this : ∃ hh, callFn pr (X pr) 75 [sl 1 vint a0, .int .i64 a1, sl 1 vint a2] [] = some (.tup [.int .i64 0, .int .i64 v5], false, hh) := by
      rw [callFn_at (show pr.fns 75 = some c75 from rfl) (by simp)]
      simp only [go_sem, seval, c75, wh2, wh4, wh6, h7]
      exact ⟨_, rfl⟩
    obtain ⟨hh, this⟩ := this
    exact callIso_of rfl this (by first | rfl | simp only [go_sem, seval]) (by first | rfl | simp only [go_sem, seval])
noncomputable def f74 (a0 : Option (List Int)) (a1 : Int) : Option ((Option (List Int)) × Int × Int) :=
  obind (f125 a0 a1) fun v1 =>
  cond (decide (v1 = 0))
   (obind (f126 10 none a0 a1 none false 0) fun v4 =>
    some (v4.1, v4.2.1, 0))
   (some (none, 0, v1))
theorem W74 {a0 : Option (List Int)} {a1 : Int} {r} (h : f74 a0 a1 = some r) : callIso pr (X pr) 74 [sl 1 vint a0, .int .i64 a1] = some (.tup [sl 1 vint r.1, .int .i64 r.2.1, .int .i64 r.2.2], false) := by
  unfold f74 at h
  obtain ⟨v1, h2, h⟩ := obind_some h
  have wh2 : callIso pr (X pr) 125 [sl 1 vint a0, .int .i64 a1] = some (.int .i64 v1, false) := W125 h2
  rcases cond_split h with ⟨h3, h⟩ | ⟨h3, h⟩
  · obtain ⟨v4, h5, h⟩ := obind_some h
    have wh5 : callFn pr (X pr) 126 [.ptr 0 0, .list true 0 []] [.cells [(sl 1 vint a0, false), (.int .i64 a1, false), (.list true 0 [], false), (.int .i64 0, false)]] = some (.tup [], false, [.cells [(sl 1 vint a0, false), (.int .i64 a1, false), (sl 1 vint v4.1, v4.2.2), (.int .i64 v4.2.1, false)]]) := W126 10 h5
    have hr : (v4.1, v4.2.1, 0) = r := Option.some.inj h
    subst hr
    have this : ∃ hh, callFn pr (X pr) 74 [sl 1 vint a0, .int .i64 a1] [] = some (.tup [sl 1 vint v4.1, .int .i64 v4.2.1, .int .i64 0], false, hh) := by
      rw [callFn_at (show pr.fns 74 = some c74 from rfl) (by simp)]
      simp only [go_sem, seval, c74, wh2, h3, wh5]
      exact ⟨_, rfl⟩
    obtain ⟨hh, this⟩ := this
    exact callIso_of rfl this (by first | rfl | simp only [go_sem, seval]) (by first | rfl | simp only [go_sem, seval])
  · have hr : (none, 0, v1) = r := Option.some.inj h
    subst hr
    have this : ∃ hh, callFn pr (X pr) 74 [sl 1 vint a0, .int .i64 a1] [] = some (.tup [.list true 0 [], .int .i64 0, .int .i64 v1], false, hh) := by
      rw [callFn_at (show pr.fns 74 = some c74 from rfl) (by simp)]
      simp only [go_sem, seval, c74, wh2, h3]
      exact ⟨_, rfl⟩
    obtain ⟨hh, this⟩ := this
    exact callIso_of rfl this (by first | rfl | simp only [go_sem, seval]) (by first | rfl | simp only [go_sem, seval])
noncomputable def f162 (a0 : Int) : Option Int :=
  cond (decide (4294967296 ≤ a0))
   (obind (shrO .u64 a0 32) fun v2 =>
    cond (decide (65536 ≤ v2))
     (obind (shrO .u64 v2 16) fun v5 =>
      cond (decide (256 ≤ v5))
       (obind (shrO .u64 v5 8) fun v8 =>
        obind (idxO ([0, 1, 2, 2, 3, 3, 3, 3, 4, 4, 4, 4, 4, 4, 4, 4, 5, 5, 5, 5, 5, 5, 5, 5, 5, 5, 5, 5, 5, 5, 5, 5, 6, 6, 6, 6, 6, 6, 6, 6, 6, 6, 6, 6, 6, 6, 6, 6, 6, 6, 6, 6, 6, 6, 6, 6, 6, 6, 6, 6, 6, 6, 6, 6, 7, 7, 7, 7, 7, 7, 7, 7, 7, 7, 7, 7, 7, 7, 7, 7, 7, 7, 7, 7, 7, 7, 7, 7, 7, 7, 7, 7, 7, 7, 7, 7, 7, 7, 7, 7, 7, 7, 7, 7, 7, 7, 7, 7, 7, 7, 7, 7, 7, 7, 7, 7, 7, 7, 7, 7, 7, 7, 7, 7, 7, 7, 7, 7, 8, 8, 8, 8, 8, 8, 8, 8, 8, 8, 8, 8, 8, 8, 8, 8, 8, 8, 8, 8, 8, 8, 8, 8, 8, 8, 8, 8, 8, 8, 8, 8, 8, 8, 8, 8, 8, 8, 8, 8, 8, 8, 8, 8, 8, 8, 8, 8, 8, 8, 8, 8, 8, 8, 8, 8, 8, 8, 8, 8, 8, 8, 8, 8, 8, 8, 8, 8, 8, 8, 8, 8, 8, 8, 8, 8, 8, 8, 8, 8, 8, 8, 8, 8, 8, 8, 8, 8, 8, 8, 8, 8, 8, 8, 8, 8, 8, 8, 8, 8, 8, 8, 8, 8, 8, 8, 8, 8, 8, 8, 8, 8, 8, 8, 8, 8, 8, 8, 8, 8, 8, 8, 8, 8, 8, 8, 8, 8] : List UInt8) (wrapF .u8 v8)) fun v10 =>
        some (wrapF .i64 ((wrapF .i64 ((wrapF .i64 (32 + 16)) + 8)) + (wrapF .i64 (v10.toNat : Int)))))
       (obind (idxO ([0, 1, 2, 2, 3, 3, 3, 3, 4, 4, 4, 4, 4, 4, 4, 4, 5, 5, 5, 5, 5, 5, 5, 5, 5, 5, 5, 5, 5, 5, 5, 5, 6, 6, 6, 6, 6, 6, 6, 6, 6, 6, 6, 6, 6, 6, 6, 6, 6, 6, 6, 6, 6, 6, 6, 6, 6, 6, 6, 6, 6, 6, 6, 6, 7, 7, 7, 7, 7, 7, 7, 7, 7, 7, 7, 7, 7, 7, 7, 7, 7, 7, 7, 7, 7, 7, 7, 7, 7, 7, 7, 7, 7, 7, 7, 7, 7, 7, 7, 7, 7, 7, 7, 7, 7, 7, 7, 7, 7, 7, 7, 7, 7, 7, 7, 7, 7, 7, 7, 7, 7, 7, 7, 7, 7, 7, 7, 7, 8, 8, 8, 8, 8, 8, 8, 8, 8, 8, 8, 8, 8, 8, 8, 8, 8, 8, 8, 8, 8, 8, 8, 8, 8, 8, 8, 8, 8, 8, 8, 8, 8, 8, 8, 8, 8, 8, 8, 8, 8, 8, 8, 8, 8, 8, 8, 8, 8, 8, 8, 8, 8, 8, 8, 8, 8, 8, 8, 8, 8, 8, 8, 8, 8, 8, 8, 8, 8, 8, 8, 8, 8, 8, 8, 8, 8, 8, 8, 8, 8, 8, 8, 8, 8, 8, 8, 8, 8, 8, 8, 8, 8, 8, 8, 8, 8, 8, 8, 8, 8, 8, 8, 8, 8, 8, 8, 8, 8, 8, 8, 8, 8, 8, 8, 8, 8, 8, 8, 8, 8, 8, 8, 8, 8, 8, 8, 8] : List UInt8) (wrapF .u8 v5)) fun v12 =>
        some (wrapF .i64 ((wrapF .i64 (32 + 16)) + (wrapF .i64 (v12.toNat : Int))))))
     (cond (decide (256 ≤ v2))
       (obind (shrO .u64 v2 8) fun v15 =>
        obind (idxO ([0, 1, 2, 2, 3, 3, 3, 3, 4, 4, 4, 4, 4, 4, 4, 4, 5, 5, 5, 5, 5, 5, 5, 5, 5, 5, 5, 5, 5, 5, 5, 5, 6, 6, 6, 6, 6, 6, 6, 6, 6, 6, 6, 6, 6, 6, 6, 6, 6, 6, 6, 6, 6, 6, 6, 6, 6, 6, 6, 6, 6, 6, 6, 6, 7, 7, 7, 7, 7, 7, 7, 7, 7, 7, 7, 7, 7, 7, 7, 7, 7, 7, 7, 7, 7, 7, 7, 7, 7, 7, 7, 7, 7, 7, 7, 7, 7, 7, 7, 7, 7, 7, 7, 7, 7, 7, 7, 7, 7, 7, 7, 7, 7, 7, 7, 7, 7, 7, 7, 7, 7, 7, 7, 7, 7, 7, 7, 7, 8, 8, 8, 8, 8, 8, 8, 8, 8, 8, 8, 8, 8, 8, 8, 8, 8, 8, 8, 8, 8, 8, 8, 8, 8, 8, 8, 8, 8, 8, 8, 8, 8, 8, 8, 8, 8, 8, 8, 8, 8, 8, 8, 8, 8, 8, 8, 8, 8, 8, 8, 8, 8, 8, 8, 8, 8, 8, 8, 8, 8, 8, 8, 8, 8, 8, 8, 8, 8, 8, 8, 8, 8, 8, 8, 8, 8, 8, 8, 8, 8, 8, 8, 8, 8, 8, 8, 8, 8, 8, 8, 8, 8, 8, 8, 8, 8, 8, 8, 8, 8, 8, 8, 8, 8, 8, 8, 8, 8, 8, 8, 8, 8, 8, 8, 8, 8, 8, 8, 8, 8, 8, 8, 8, 8, 8, 8, 8] : List UInt8) (wrapF .u8 v15)) fun v17 =>
        some (wrapF .i64 ((wrapF .i64 (32 + 8)) + (wrapF .i64 (v17.toNat : Int)))))
       (obind (idxO ([0, 1, 2, 2, 3, 3, 3, 3, 4, 4, 4, 4, 4, 4, 4, 4, 5, 5, 5, 5, 5, 5, 5, 5, 5, 5, 5, 5, 5, 5, 5, 5, 6, 6, 6, 6, 6, 6, 6, 6, 6, 6, 6, 6, 6, 6, 6, 6, 6, 6, 6, 6, 6, 6, 6, 6, 6, 6, 6, 6, 6, 6, 6, 6, 7, 7, 7, 7, 7, 7, 7, 7, 7, 7, 7, 7, 7, 7, 7, 7, 7, 7, 7, 7, 7, 7, 7, 7, 7, 7, 7, 7, 7, 7, 7, 7, 7, 7, 7, 7, 7, 7, 7, 7, 7, 7, 7, 7, 7, 7, 7, 7, 7, 7, 7, 7, 7, 7, 7, 7, 7, 7, 7, 7, 7, 7, 7, 7, 8, 8, 8, 8, 8, 8, 8, 8, 8, 8, 8, 8, 8, 8, 8, 8, 8, 8, 8, 8, 8, 8, 8, 8, 8, 8, 8, 8, 8, 8, 8, 8, 8, 8, 8, 8, 8, 8, 8, 8, 8, 8, 8, 8, 8, 8, 8, 8, 8, 8, 8, 8, 8, 8, 8, 8, 8, 8, 8, 8, 8, 8, 8, 8, 8, 8, 8, 8, 8, 8, 8, 8, 8, 8, 8, 8, 8, 8, 8, 8, 8, 8, 8, 8, 8, 8, 8, 8, 8, 8, 8, 8, 8, 8, 8, 8, 8, 8, 8, 8, 8, 8, 8, 8, 8, 8, 8, 8, 8, 8, 8, 8, 8, 8, 8, 8, 8, 8, 8, 8, 8, 8, 8, 8, 8, 8, 8, 8] : List UInt8) (wrapF .u8 v2)) fun v19 =>
        some (wrapF .i64 (32 + (wrapF .i64 (v19.toNat : Int)))))))
   (cond (decide (65536 ≤ a0))
     (obind (shrO .u64 a0 16) fun v22 =>
      cond (decide (256 ≤ v22))
       (obind (shrO .u64 v22 8) fun v25 =>
        obind (idxO ([0, 1, 2, 2, 3, 3, 3, 3, 4, 4, 4, 4, 4, 4, 4, 4, 5, 5, 5, 5, 5, 5, 5, 5, 5, 5, 5, 5, 5, 5, 5, 5, 6, 6, 6, 6, 6, 6, 6, 6, 6, 6, 6, 6, 6, 6, 6, 6, 6, 6, 6, 6, 6, 6, 6, 6, 6, 6, 6, 6, 6, 6, 6, 6, 7, 7, 7, 7, 7, 7, 7, 7, 7, 7, 7, 7, 7, 7, 7, 7, 7, 7, 7, 7, 7, 7, 7, 7, 7, 7, 7, 7, 7, 7, 7, 7, 7, 7, 7, 7, 7, 7, 7, 7, 7, 7, 7, 7, 7, 7, 7, 7, 7, 7, 7, 7, 7, 7, 7, 7, 7, 7, 7, 7, 7, 7, 7, 7, 8, 8, 8, 8, 8, 8, 8, 8, 8, 8, 8, 8, 8, 8, 8, 8, 8, 8, 8, 8, 8, 8, 8, 8, 8, 8, 8, 8, 8, 8, 8, 8, 8, 8, 8, 8, 8, 8, 8, 8, 8, 8, 8, 8, 8, 8, 8, 8, 8, 8, 8, 8, 8, 8, 8, 8, 8, 8, 8, 8, 8, 8, 8, 8, 8, 8, 8, 8, 8, 8, 8, 8, 8, 8, 8, 8, 8, 8, 8, 8, 8, 8, 8, 8, 8, 8, 8, 8, 8, 8, 8, 8, 8, 8, 8, 8, 8, 8, 8, 8, 8, 8, 8, 8, 8, 8, 8, 8, 8, 8, 8, 8, 8, 8, 8, 8, 8, 8, 8, 8, 8, 8, 8, 8, 8, 8, 8, 8] : List UInt8) (wrapF .u8 v25)) fun v27 =>
        some (wrapF .i64 ((wrapF .i64 ((wrapF .i64 (0 + 16)) + 8)) + (wrapF .i64 (v27.toNat : Int)))))
       (obind (idxO ([0, 1, 2, 2, 3, 3, 3, 3, 4, 4, 4, 4, 4, 4, 4, 4, 5, 5, 5, 5, 5, 5, 5, 5, 5, 5, 5, 5, 5, 5, 5, 5, 6, 6, 6, 6, 6, 6, 6, 6, 6, 6, 6, 6, 6, 6, 6, 6, 6, 6, 6, 6, 6, 6, 6, 6, 6, 6, 6, 6, 6, 6, 6, 6, 7, 7, 7, 7, 7, 7, 7, 7, 7, 7, 7, 7, 7, 7, 7, 7, 7, 7, 7, 7, 7, 7, 7, 7, 7, 7, 7, 7, 7, 7, 7, 7, 7, 7, 7, 7, 7, 7, 7, 7, 7, 7, 7, 7, 7, 7, 7, 7, 7, 7, 7, 7, 7, 7, 7, 7, 7, 7, 7, 7, 7, 7, 7, 7, 8, 8, 8, 8, 8, 8, 8, 8, 8, 8, 8, 8, 8, 8, 8, 8, 8, 8, 8, 8, 8, 8, 8, 8, 8, 8, 8, 8, 8, 8, 8, 8, 8, 8, 8, 8, 8, 8, 8, 8, 8, 8, 8, 8, 8, 8, 8, 8, 8, 8, 8, 8, 8, 8, 8, 8, 8, 8, 8, 8, 8, 8, 8, 8, 8, 8, 8, 8, 8, 8, 8, 8, 8, 8, 8, 8, 8, 8, 8, 8, 8, 8, 8, 8, 8, 8, 8, 8, 8, 8, 8, 8, 8, 8, 8, 8, 8, 8, 8, 8, 8, 8, 8, 8, 8, 8, 8, 8, 8, 8, 8, 8, 8, 8, 8, 8, 8, 8, 8, 8, 8, 8, 8, 8, 8, 8, 8, 8] : List UInt8) (wrapF .u8 v22)) fun v29 =>
        some (wrapF .i64 ((wrapF .i64 (0 + 16)) + (wrapF .i64 (v29.toNat : Int))))))
     (cond (decide (256 ≤ a0))
       (obind (shrO .u64 a0 8) fun v32 =>
        obind (idxO ([0, 1, 2, 2, 3, 3, 3, 3, 4, 4, 4, 4, 4, 4, 4, 4, 5, 5, 5, 5, 5, 5, 5, 5, 5, 5, 5, 5, 5, 5, 5, 5, 6, 6, 6, 6, 6, 6, 6, 6, 6, 6, 6, 6, 6, 6, 6, 6, 6, 6, 6, 6, 6, 6, 6, 6, 6, 6, 6, 6, 6, 6, 6, 6, 7, 7, 7, 7, 7, 7, 7, 7, 7, 7, 7, 7, 7, 7, 7, 7, 7, 7, 7, 7, 7, 7, 7, 7, 7, 7, 7, 7, 7, 7, 7, 7, 7, 7, 7, 7, 7, 7, 7, 7, 7, 7, 7, 7, 7, 7, 7, 7, 7, 7, 7, 7, 7, 7, 7, 7, 7, 7, 7, 7, 7, 7, 7, 7, 8, 8, 8, 8, 8, 8, 8, 8, 8, 8, 8, 8, 8, 8, 8, 8, 8, 8, 8, 8, 8, 8, 8, 8, 8, 8, 8, 8, 8, 8, 8, 8, 8, 8, 8, 8, 8, 8, 8, 8, 8, 8, 8, 8, 8, 8, 8, 8, 8, 8, 8, 8, 8, 8, 8, 8, 8, 8, 8, 8, 8, 8, 8, 8, 8, 8, 8, 8, 8, 8, 8, 8, 8, 8, 8, 8, 8, 8, 8, 8, 8, 8, 8, 8, 8, 8, 8, 8, 8, 8, 8, 8, 8, 8, 8, 8, 8, 8, 8, 8, 8, 8, 8, 8, 8, 8, 8, 8, 8, 8, 8, 8, 8, 8, 8, 8, 8, 8, 8, 8, 8, 8, 8, 8, 8, 8, 8, 8] : List UInt8) (wrapF .u8 v32)) fun v34 =>
        some (wrapF .i64 ((wrapF .i64 (0 + 8)) + (wrapF .i64 (v34.toNat : Int)))))
       (obind (idxO ([0, 1, 2, 2, 3, 3, 3, 3, 4, 4, 4, 4, 4, 4, 4, 4, 5, 5, 5, 5, 5, 5, 5, 5, 5, 5, 5, 5, 5, 5, 5, 5, 6, 6, 6, 6, 6, 6, 6, 6, 6, 6, 6, 6, 6, 6, 6, 6, 6, 6, 6, 6, 6, 6, 6, 6, 6, 6, 6, 6, 6, 6, 6, 6, 7, 7, 7, 7, 7, 7, 7, 7, 7, 7, 7, 7, 7, 7, 7, 7, 7, 7, 7, 7, 7, 7, 7, 7, 7, 7, 7, 7, 7, 7, 7, 7, 7, 7, 7, 7, 7, 7, 7, 7, 7, 7, 7, 7, 7, 7, 7, 7, 7, 7, 7, 7, 7, 7, 7, 7, 7, 7, 7, 7, 7, 7, 7, 7, 8, 8, 8, 8, 8, 8, 8, 8, 8, 8, 8, 8, 8, 8, 8, 8, 8, 8, 8, 8, 8, 8, 8, 8, 8, 8, 8, 8, 8, 8, 8, 8, 8, 8, 8, 8, 8, 8, 8, 8, 8, 8, 8, 8, 8, 8, 8, 8, 8, 8, 8, 8, 8, 8, 8, 8, 8, 8, 8, 8, 8, 8, 8, 8, 8, 8, 8, 8, 8, 8, 8, 8, 8, 8, 8, 8, 8, 8, 8, 8, 8, 8, 8, 8, 8, 8, 8, 8, 8, 8, 8, 8, 8, 8, 8, 8, 8, 8, 8, 8, 8, 8, 8, 8, 8, 8, 8, 8, 8, 8, 8, 8, 8, 8, 8, 8, 8, 8, 8, 8, 8, 8, 8, 8, 8, 8, 8, 8] : List UInt8) (wrapF .u8 a0)) fun v36 =>
        some (wrapF .i64 (0 + (wrapF .i64 (v36.toNat : Int)))))))
theorem W162 {a0 : Int} {r} (h : f162 a0 = some r) : callIso pr (X pr) 162 [.int .u64 a0] = some (.int .i64 r, false) := by
  unfold f162 at h
  rcases cond_split h with ⟨h1, h⟩ | ⟨h1, h⟩
  · obtain ⟨v2, h3, h⟩ := obind_some h
    rcases cond_split h with ⟨h4, h⟩ | ⟨h4, h⟩
    · obtain ⟨v5, h6, h⟩ := obind_some h
      rcases cond_split h with ⟨h7, h⟩ | ⟨h7, h⟩
      · obtain ⟨v8, h9, h⟩ := obind_some h
        obtain ⟨v10, h11, h⟩ := obind_some h
        have hr : wrapF .i64 ((wrapF .i64 ((wrapF .i64 (32 + 16)) + 8)) + (wrapF .i64 (v10.toNat : Int))) = r := Option.some.inj h
        subst hr
        have this : ∃ hh, callFn pr (X pr) 162 [.int .u64 a0] [] = some (.int .i64 (wrapF .i64 ((wrapF .i64 ((wrapF .i64 (32 + 16)) + 8)) + (wrapF .i64 (v10.toNat : Int)))), false, hh) := by
          rw [callFn_at (show pr.fns 162 = some c162 from rfl) (by simp)]
          simp only [go_sem, seval, c162, h1, b_shr_O h3, h4, b_shr_O h6, h7, b_shr_O h9, strIdx_O h11]
          exact ⟨_, rfl⟩
        obtain ⟨hh, this⟩ := this
        exact callIso_of rfl this (by first | rfl | simp only [go_sem, seval]) (by first | rfl | simp only [go_sem, seval])
      · obtain ⟨v12, h13, h⟩ := obind_some h
        have hr : wrapF .i64 ((wrapF .i64 (32 + 16)) + (wrapF .i64 (v12.toNat : Int))) = r := Option.some.inj h
        subst hr
        have this : ∃ hh, callFn pr (X pr) 162 [.int .u64 a0] [] = some (.int .i64 (wrapF .i64 ((wrapF .i64 (32 + 16)) + (wrapF .i64 (v12.toNat : Int)))), false, hh) := by
          rw [callFn_at (show pr.fns 162 = some c162 from rfl) (by simp)]
          simp only [go_sem, seval, c162, h1, b_shr_O h3, h4, b_shr_O h6, h7, strIdx_O h13]
          exact ⟨_, rfl⟩
        obtain ⟨hh, this⟩ := this
        exact callIso_of rfl this (by first | rfl | simp only [go_sem, seval]) (by first | rfl | simp only [go_sem, seval])
    · rcases cond_split h with ⟨h14, h⟩ | ⟨h14, h⟩
      · obtain ⟨v15, h16, h⟩ := obind_some h
        obtain ⟨v17, h18, h⟩ := obind_some h
        have hr : wrapF .i64 ((wrapF .i64 (32 + 8)) + (wrapF .i64 (v17.toNat : Int))) = r := Option.some.inj h
        subst hr
        have this : ∃ hh, callFn pr (X pr) 162 [.int .u64 a0] [] = some (.int .i64 (wrapF .i64 ((wrapF .i64 (32 + 8)) + (wrapF .i64 (v17.toNat : Int)))), false, hh) := by
          rw [callFn_at (show pr.fns 162 = some c162 from rfl) (by simp)]
          simp only [go_sem, seval, c162, h1, b_shr_O h3, h4, h14, b_shr_O h16, strIdx_O h18]
          exact ⟨_, rfl⟩
        obtain ⟨hh, this⟩ := this
        exact callIso_of rfl this (by first | rfl | simp only [go_sem, seval]) (by first | rfl | simp only [go_sem, seval])
      · obtain ⟨v19, h20, h⟩ := obind_some h
        have hr : wrapF .i64 (32 + (wrapF .i64 (v19.toNat : Int))) = r := Option.some.inj h
        subst hr
        have this : ∃ hh, callFn pr (X pr) 162 [.int .u64 a0] [] = some (.int .i64 (wrapF .i64 (32 + (wrapF .i64 (v19.toNat : Int)))), false, hh) := by
          rw [callFn_at (show pr.fns 162 = some c162 from rfl) (by simp)]
          simp only [go_sem, seval, c162, h1, b_shr_O h3, h4, h14, strIdx_O h20]
          exact ⟨_, rfl⟩
        obtain ⟨hh, this⟩ := this
        exact callIso_of rfl this (by first | rfl | simp only [go_sem, seval]) (by first | rfl | simp only [go_sem, seval])
  · rcases cond_split h with ⟨h21, h⟩ | ⟨h21, h⟩
    · obtain ⟨v22, h23, h⟩ := obind_some h
      rcases cond_split h with ⟨h24, h⟩ | ⟨h24, h⟩
      · obtain ⟨v25, h26, h⟩ := obind_some h
        obtain ⟨v27, h28, h⟩ := obind_some h
        have hr : wrapF .i64 ((wrapF .i64 ((wrapF .i64 (0 + 16)) + 8)) + (wrapF .i64 (v27.toNat : Int))) = r := Option.some.inj h
        subst hr
        have this : ∃ hh, callFn pr (X pr) 162 [.int .u64 a0] [] = some (.int .i64 (wrapF .i64 ((wrapF .i64 ((wrapF .i64 (0 + 16)) + 8)) + (wrapF .i64 (v27.toNat : Int)))), false, hh) := by
          rw [callFn_at (show pr.fns 162 = some c162 from rfl) (by simp)]
          simp only [go_sem, seval, c162, h1, h21, b_shr_O h23, h24, b_shr_O h26, strIdx_O h28]
          exact ⟨_, rfl⟩
        obtain ⟨hh, this⟩ := this
        exact callIso_of rfl this (by first | rfl | simp only [go_sem, seval]) (by first | rfl | simp only [go_sem, seval])
      · obtain ⟨v29, h30, h⟩ := obind_some h
        have hr : wrapF .i64 ((wrapF .i64 (0 + 16)) + (wrapF .i64 (v29.toNat : Int))) = r := Option.some.inj h
        subst hr
        have this : ∃ hh, callFn pr (X pr) 162 [.int .u64 a0] [] = some (.int .i64 (wrapF .i64 ((wrapF .i64 (0 + 16)) + (wrapF .i64 (v29.toNat : Int)))), false, hh) := by
          rw [callFn_at (show pr.fns 162 = some c162 from rfl) (by simp)]
          simp only [go_sem, seval, c162, h1, h21, b_shr_O h23, h24, strIdx_O h30]
          exact ⟨_, rfl⟩
        obtain ⟨hh, this⟩ := this
        exact callIso_of rfl this (by first | rfl | simp only [go_sem, seval]) (by first | rfl | simp only [go_sem, seval])
    · rcases cond_split h with ⟨h31, h⟩ | ⟨h31, h⟩
      · obtain ⟨v32, h33, h⟩ := obind_some h
        obtain ⟨v34, h35, h⟩ := obind_some h
        have hr : wrapF .i64 ((wrapF .i64 (0 + 8)) + (wrapF .i64 (v34.toNat : Int))) = r := Option.some.inj h
        subst hr
        have this : ∃ hh, callFn pr (X pr) 162 [.int .u64 a0] [] = some (.int .i64 (wrapF .i64 ((wrapF .i64 (0 + 8)) + (wrapF .i64 (v34.toNat : Int)))), false, hh) := by
          rw [callFn_at (show pr.fns 162 = some c162 from rfl) (by simp)]
          simp only [go_sem, seval, c162, h1, h21, h31, b_shr_O h33, strIdx_O h35]
          exact ⟨_, rfl⟩
        obtain ⟨hh, this⟩ := this
        exact callIso_of rfl this (by first | rfl | simp only [go_sem, seval]) (by first | rfl | simp only [go_sem, seval])
      · obtain ⟨v36, h37, h⟩ := obind_some h
        have hr : wrapF .i64 (0 + (wrapF .i64 (v36.toNat : Int))) = r := Option.some.inj h
        subst hr
        have this : ∃ hh, callFn pr (X pr) 162 [.int .u64 a0] [] = some (.int .i64 (wrapF .i64 (0 + (wrapF .i64 (v36.toNat : Int)))), false, hh) := by
          rw [callFn_at (show pr.fns 162 = some c162 from rfl) (by simp)]
          simp only [go_sem, seval, c162, h1, h21, h31, strIdx_O h37]
          exact ⟨_, rfl⟩
        obtain ⟨hh, this⟩ := this
        exact callIso_of rfl this (by first | rfl | simp only [go_sem, seval]) (by first | rfl | simp only [go_sem, seval])
noncomputable def f150 (a0 : Int) : Option Int :=
  obind (f162 a0) fun v1 =>
  some v1
theorem W150 {a0 : Int} {r} (h : f150 a0 = some r) : callIso pr (X pr) 150 [.int .u64 a0] = some (.int .i64 r, false) := by
  unfold f150 at h
  obtain ⟨v1, h2, h⟩ := obind_some h
  have wh2 : callIso pr (X pr) 162 [.int .u64 a0] = some (.int .i64 v1, false) := W162 h2
  have hr : v1 = r := Option.some.inj h
  subst hr
  have this : ∃ hh, callFn pr (X pr) 150 [.int .u64 a0] [] = some (.int .i64 v1, false, hh) := by
    rw [callFn_at (show pr.fns 150 = some c150 from rfl) (by simp)]
    simp only [go_sem, seval, c150, wh2]
    exact ⟨_, rfl⟩
  obtain ⟨hh, this⟩ := this
  exact callIso_of rfl this (by first | rfl | simp only [go_sem, seval]) (by first | rfl | simp only [go_sem, seval])
noncomputable def f163 (a0 : Int) : Option Bool :=
  some false
theorem W163 {a0 : Int} {r} (h : f163 a0 = some r) : callIso pr (X pr) 163 [.int .i64 a0] = some (.bool r, false) := by
  unfold f163 at h
  have hr : false = r := Option.some.inj h
  subst hr
  have this : ∃ hh, callFn pr (X pr) 163 [.int .i64 a0] [] = some (.bool false, false, hh) := by
    rw [callFn_at (show pr.fns 163 = some c163 from rfl) (by simp)]
    simp only [go_sem, seval, c163]
    exact ⟨_, rfl⟩
  obtain ⟨hh, this⟩ := this
  exact callIso_of rfl this (by first | rfl | simp only [go_sem, seval]) (by first | rfl | simp only [go_sem, seval])
noncomputable def f151 (a0 : Int) (a1 : Int) : Option Int :=
  obind (f163 a0) fun v1 =>
  obind (f163 a1) fun v3 =>
  cond v1
   (cond v3
     (some 0)
     (some (-1)))
   (cond v3
     (some 1)
     (cond (decide (a0 < a1))
       (some (-1))
       (cond (decide (a1 < a0))
         (some 1)
         (some 0))))
theorem W151 {a0 : Int} {a1 : Int} {r} (h : f151 a0 a1 = some r) : callIso pr (X pr) 151 [.int .i64 a0, .int .i64 a1] = some (.int .i64 r, false) := by
  unfold f151 at h
  obtain ⟨v1, h2, h⟩ := obind_some h
  have wh2 : callIso pr (X pr) 163 [.int .i64 a0] = some (.bool v1, false) := W163 h2
  obtain ⟨v3, h4, h⟩ := obind_some h
  have wh4 : callIso pr (X pr) 163 [.int .i64 a1] = some (.bool v3, false) := W163 h4
  rcases cond_split h with ⟨h5, h⟩ | ⟨h5, h⟩
  · rcases cond_split h with ⟨h6, h⟩ | ⟨h6, h⟩
    · have hr : 0 = r := Option.some.inj h
      subst hr
      have this : ∃ hh, callFn pr (X pr) 151 [.int .i64 a0, .int .i64 a1] [] = some (.int .i64 0, false, hh) := by
        rw [callFn_at (show pr.fns 151 = some c151 from rfl) (by simp)]
        simp only [go_sem, seval, c151, wh2, wh4, h5, h6]
        exact ⟨_, rfl⟩
      obtain ⟨hh, this⟩ := this
      exact callIso_of rfl this (by first | rfl | simp only [go_sem, seval]) (by first | rfl | simp only [go_sem, seval])
    · have hr : (-1) = r := Option.some.inj h
      subst hr
      have this : ∃ hh, callFn pr (X pr) 151 [.int .i64 a0, .int .i64 a1] [] = some (.int .i64 (-1), false, hh) := by
        rw [callFn_at (show pr.fns 151 = some c151 from rfl) (by simp)]
        simp only [go_sem, seval, c151, wh2, wh4, h5, h6]
        exact ⟨_, rfl⟩
      obtain ⟨hh, this⟩ := this
      exact callIso_of rfl this (by first | rfl | simp only [go_sem, seval]) (by first | rfl | simp only [go_sem, seval])
  · rcases cond_split h with ⟨h7, h⟩ | ⟨h7, h⟩
    · have hr : 1 = r := Option.some.inj h
      subst hr
      have this : ∃ hh, callFn pr (X pr) 151 [.int .i64 a0, .int .i64 a1] [] = some (.int .i64 1, false, hh) := by
        rw [callFn_at (show pr.fns 151 = some c151 from rfl) (by simp)]
        simp only [go_sem, seval, c151, wh2, wh4, h5, h7]
        exact ⟨_, rfl⟩
      obtain ⟨hh, this⟩ := this
      exact callIso_of rfl this (by first | rfl | simp only [go_sem, seval]) (by first | rfl | simp only [go_sem, seval])
    · rcases cond_split h with ⟨h8, h⟩ | ⟨h8, h⟩
      · have hr : (-1) = r := Option.some.inj h
        subst hr
        have this : ∃ hh, callFn pr (X pr) 151 [.int .i64 a0, .int .i64 a1] [] = some (.int .i64 (-1), false, hh) := by
          rw [callFn_at (show pr.fns 151 = some c151 from rfl) (by simp)]
          simp only [go_sem, seval, c151, wh2, wh4, h5, h7, h8]
          exact ⟨_, rfl⟩
        obtain ⟨hh, this⟩ := this
        exact callIso_of rfl this (by first | rfl | simp only [go_sem, seval]) (by first | rfl | simp only [go_sem, seval])
      · rcases cond_split h with ⟨h9, h⟩ | ⟨h9, h⟩
        · have hr : 1 = r := Option.some.inj h
          subst hr
          have this : ∃ hh, callFn pr (X pr) 151 [.int .i64 a0, .int .i64 a1] [] = some (.int .i64 1, false, hh) := by
            rw [callFn_at (show pr.fns 151 = some c151 from rfl) (by simp)]
            simp only [go_sem, seval, c151, wh2, wh4, h5, h7, h8, h9]
            exact ⟨_, rfl⟩
          obtain ⟨hh, this⟩ := this
          exact callIso_of rfl this (by first | rfl | simp only [go_sem, seval]) (by first | rfl | simp only [go_sem, seval])
        · have hr : 0 = r := Option.some.inj h
          subst hr
          have this : ∃ hh, callFn pr (X pr) 151 [.int .i64 a0, .int .i64 a1] [] = some (.int .i64 0, false, hh) := by
            rw [callFn_at (show pr.fns 151 = some c151 from rfl) (by simp)]
            simp only [go_sem, seval, c151, wh2, wh4, h5, h7, h8, h9]
            exact ⟨_, rfl⟩
          obtain ⟨hh, this⟩ := this
          exact callIso_of rfl this (by first | rfl | simp only [go_sem, seval]) (by first | rfl | simp only [go_sem, seval])
noncomputable def f131 (a0 : Int) (a1 : Int) : Option Int :=
  obind (f151 a1 a0) fun v1 =>
  some v1
theorem W131 (hp : Heap) {a0 : Int} {a1 : Int} {r} (h : f131 a0 a1 = some r) : callFn pr (X pr) 131 [.int .i64 a0, .int .i64 a1] hp = some (.int .i64 r, false, hp) := by
  unfold f131 at h
  obtain ⟨v1, h2, h⟩ := obind_some h
  have wh2 : callIso pr (X pr) 151 [.int .i64 a1, .int .i64 a0] = some (.int .i64 v1, false) := W151 h2
  have hr : v1 = r := Option.some.inj h
  subst hr
  rw [callFn_at (show pr.fns 131 = some c131 from rfl) (by simp)]
  simp only [go_sem, seval, c131, wh2] <;> rfl
noncomputable def s153_1 (n0 : Nat) (a1 : Int) (a2 : Int) (s0 : Int × (List Int)) (s1 : Int × (List Int)) : Option ((Int × (List Int)) ⊕ ((Int × (List Int)))) :=
  cond (decide (a1 < s1.1))
   (obind (idxM n0 s1.2 s1.1) fun v89 =>
    obind (idxM n0 s1.2 (wrapF .i64 (s1.1 - 1))) fun v91 =>
    obind (f131 v89 v91) fun v93 =>
    cond (decide (v93 < 0))
     (obind (idxM n0 (s1.2.set s1.1.toNat v91) (wrapF .i64 (s1.1 - 1))) fun v96 =>
      some (.inl (wrapF .i64 (s1.1 - 1), (s1.2.set s1.1.toNat v91).set (wrapF .i64 (s1.1 - 1)).toNat v89)))
     (some (.inr (s1.1, s1.2))))
   (some (.inr (s1.1, s1.2)))
def St153_1 (n0 : Nat) (a1 : Int) (a2 : Int) (s0 : Int × (List Int)) (s1 : Int × (List Int)) : ASt := ⟨[(0, .ms 0 0 n0, false), (1, .int .i64 a1, false), (2, .int .i64 a2, false), (3, .fn (.func 131) [] [], false), (8, .int .i64 s0.1, false), (9, .int .i64 s1.1, false)], [.cells (icl s1.2)]⟩
def Ex153_1 (n0 : Nat) (a1 : Int) (a2 : Int) (s0 : Int × (List Int)) (d : (Int × (List Int))) : AExit × ASt := (.exit 2, ⟨[(0, .ms 0 0 n0, false), (1, .int .i64 a1, false), (2, .int .i64 a2, false), (3, .fn (.func 131) [] [], false), (8, .int .i64 s0.1, false), (9, .int .i64 d.1, false), (34, .bool false, false)], [.cells (icl d.2)]⟩)
theorem b153_1 (n0 : Nat) (a1 : Int) (a2 : Int) (s0 : Int × (List Int)) (s1 : Int × (List Int)) (r) (h : s153_1 n0 a1 a2 s0 s1 = some r) : stepO pr c153_1 (St153_1 n0 a1 a2 s0) (Ex153_1 n0 a1 a2 s0) s1 r := by
  unfold s153_1 at h
  rcases cond_split h with ⟨h88, h⟩ | ⟨h88, h⟩
  · obtain ⟨v89, h90, h⟩ := obind_some h
    obtain ⟨v91, h92, h⟩ := obind_some h
    obtain ⟨v93, h94, h⟩ := obind_some h
    have wh94 : callFn pr (X pr) 131 [.int .i64 v89, .int .i64 v91] [.cells (icl s1.2)] = some (.int .i64 v93, false, [.cells (icl s1.2)]) := W131 [.cells (icl s1.2)] h94
    rcases cond_split h with ⟨h95, h⟩ | ⟨h95, h⟩
    · obtain ⟨v96, h97, h⟩ := obind_some h
      cases h
      exact stepO_in (st' := ⟨[(0, .ms 0 0 n0, false), (1, .int .i64 a1, false), (2, .int .i64 a2, false), (3, .fn (.func 131) [] [], false), (8, .int .i64 s0.1, false), (9, .int .i64 (wrapF .i64 (s1.1 - 1)), false)], [.cells (icl ((s1.2.set s1.1.toNat v91).set (wrapF .i64 (s1.1 - 1)).toNat v89))]⟩) (by simp only [go_sem, seval, c153_1, St153_1, h88, idx_ms_O h90, ld_ms_O h90, st_ms_O h90, idx_ms_O h92, ld_ms_O h92, st_ms_O h92, wh94, h95, idx_ms_O h97, ld_ms_O h97, st_ms_O h97] <;> rfl) (gc_same (Nat.le_refl _))
    · cases h
      exact stepO_out (by simp only [go_sem, seval, c153_1, St153_1, h88, idx_ms_O h90, ld_ms_O h90, st_ms_O h90, idx_ms_O h92, ld_ms_O h92, st_ms_O h92, wh94, h95, Ex153_1] <;> rfl)
  · cases h
    exact stepO_out (by simp only [go_sem, seval, c153_1, St153_1, h88, Ex153_1] <;> rfl)
theorem l153_1 (n0 : Nat) (a1 : Int) (a2 : Int) (s0 : Int × (List Int)) {s1 : Int × (List Int)} {d} (h : itO (s153_1 n0 a1 a2 s0) s1 = some d) : X pr (.loop c153_1) (St153_1 n0 a1 a2 s0 s1) = some (Ex153_1 n0 a1 a2 s0 d) := X_itO (b153_1 n0 a1 a2 s0) (fun d hh => by cases hh) h
noncomputable def s153_0 (n0 : Nat) (a1 : Int) (a2 : Int) (s0 : Int × (List Int)) : Option ((Int × (List Int)) ⊕ ((Int × (List Int)))) :=
  cond (decide (s0.1 < a2))
   (obind (itO (s153_1 n0 a1 a2 s0) (s0.1, s0.2)) fun d98 =>
    some (.inl (wrapF .i64 (s0.1 + 1), d98.2)))
   (some (.inr (s0.1, s0.2)))
def St153_0 (n0 : Nat) (a1 : Int) (a2 : Int) (s0 : Int × (List Int)) : ASt := ⟨[(0, .ms 0 0 n0, false), (1, .int .i64 a1, false), (2, .int .i64 a2, false), (3, .fn (.func 131) [] [], false), (8, .int .i64 s0.1, false)], [.cells (icl s0.2)]⟩
def Ex153_0 (n0 : Nat) (a1 : Int) (a2 : Int) (d : (Int × (List Int))) : AExit × ASt := (.exit 0, ⟨[(0, .ms 0 0 n0, false), (1, .int .i64 a1, false), (2, .int .i64 a2, false), (3, .fn (.func 131) [] [], false), (8, .int .i64 d.1, false), (14, .bool false, false)], [.cells (icl d.2)]⟩)
theorem b153_0 (n0 : Nat) (a1 : Int) (a2 : Int) (s0 : Int × (List Int)) (r) (h : s153_0 n0 a1 a2 s0 = some r) : stepO pr c153_0 (St153_0 n0 a1 a2) (Ex153_0 n0 a1 a2) s0 r := by
  unfold s153_0 at h
  rcases cond_split h with ⟨h67, h⟩ | ⟨h67, h⟩
  · obtain ⟨d98, h99, h⟩ := obind_some h
    have wh99 : X pr (.loop c153_1) ⟨[(0, .ms 0 0 n0, false), (1, .int .i64 a1, false), (2, .int .i64 a2, false), (3, .fn (.func 131) [] [], false), (8, .int .i64 s0.1, false), (9, .int .i64 s0.1, false)], [.cells (icl s0.2)]⟩ = some (.exit 2, ⟨[(0, .ms 0 0 n0, false), (1, .int .i64 a1, false), (2, .int .i64 a2, false), (3, .fn (.func 131) [] [], false), (8, .int .i64 s0.1, false), (9, .int .i64 d98.1, false), (34, .bool false, false)], [.cells (icl d98.2)]⟩) := l153_1 n0 a1 a2 s0 h99
    cases h
    exact stepO_in (st' := ⟨[(0, .ms 0 0 n0, false), (1, .int .i64 a1, false), (2, .int .i64 a2, false), (3, .fn (.func 131) [] [], false), (8, .int .i64 (wrapF .i64 (s0.1 + 1)), false)], [.cells (icl d98.2)]⟩) (by simp only [go_sem, seval, c153_0, St153_0, h67, wh99] <;> rfl) (gc_same (Nat.le_refl _))
  · cases h
    exact stepO_out (by simp only [go_sem, seval, c153_0, St153_0, h67, Ex153_0] <;> rfl)
theorem l153_0 (n0 : Nat) (a1 : Int) (a2 : Int) {s0 : Int × (List Int)} {d} (h : itO (s153_0 n0 a1 a2) s0 = some d) : X pr (.loop c153_0) (St153_0 n0 a1 a2 s0) = some (Ex153_0 n0 a1 a2 d) := X_itO (b153_0 n0 a1 a2) (fun d hh => by cases hh) h
noncomputable def f153 (n0 : Nat) (a1 : Int) (a2 : Int) (e0 : List Int) : Option (List Int) :=
  obind (itO (s153_0 n0 a1 a2) (wrapF .i64 (a1 + 1), e0)) fun d100 =>
  some d100.2
theorem W153 {n0 : Nat} {a1 : Int} {a2 : Int} {e0 : List Int} {r} (h : f153 n0 a1 a2 e0 = some r) : callFn pr (X pr) 153 [.ms 0 0 n0, .int .i64 a1, .int .i64 a2, .fn (.func 131) [] []] [.cells (icl e0)] = some (.tup [], false, [.cells (icl r)]) := by
  unfold f153 at h
  obtain ⟨d100, h101, h⟩ := obind_some h
  have wh101 : X pr (.loop c153_0) ⟨[(0, .ms 0 0 n0, false), (1, .int .i64 a1, false), (2, .int .i64 a2, false), (3, .fn (.func 131) [] [], false), (8, .int .i64 (wrapF .i64 (a1 + 1)), false)], [.cells (icl e0)]⟩ = some (.exit 0, ⟨[(0, .ms 0 0 n0, false), (1, .int .i64 a1, false), (2, .int .i64 a2, false), (3, .fn (.func 131) [] [], false), (8, .int .i64 d100.1, false), (14, .bool false, false)], [.cells (icl d100.2)]⟩) := l153_0 n0 a1 a2 h101
  have hr : d100.2 = r := Option.some.inj h
  subst hr
  rw [callFn_at (show pr.fns 153 = some c153 from rfl) (by simp)]
  simp only [go_sem, seval, c153, wh101] <;> rfl
noncomputable def s149_0 (n0 : Nat) (a1 : Int) (a2 : Int) (a3 : Int) (e0 : List Int) (s0 : Unit) : Option (Unit ⊕ ((List Int))) :=
  cond (decide ((wrapF .i64 (a2 - a1)) ≤ 12))
   (obind (f153 n0 a1 a2 e0) fun v6 =>
    some (.inr v6))
   (cond (decide (a3 = 0))
     (none)
     (none))
def St149_0 (n0 : Nat) (a1 : Int) (a2 : Int) (a3 : Int) (e0 : List Int) (s0 : Unit) : ASt := ⟨[(0, .ms 0 0 n0, false), (1, .int .i64 a1, false), (2, .int .i64 a2, false), (3, .int .i64 a3, false), (4, .fn (.func 131) [] [], false), (10, .bool true, false), (11, .bool true, false)], [.cells (icl e0)]⟩
def Ex149_0 (n0 : Nat) (a1 : Int) (a2 : Int) (a3 : Int) (e0 : List Int) (d : (List Int)) : AExit × ASt := (.ret, ⟨[], [.cells (icl d)]⟩)
theorem b149_0 (n0 : Nat) (a1 : Int) (a2 : Int) (a3 : Int) (e0 : List Int) (s0 : Unit) (r) (h : s149_0 n0 a1 a2 a3 e0 s0 = some r) : stepO pr c149_0 (St149_0 n0 a1 a2 a3 e0) (Ex149_0 n0 a1 a2 a3 e0) s0 r := by
  unfold s149_0 at h
  rcases cond_split h with ⟨h5, h⟩ | ⟨h5, h⟩
  · obtain ⟨v6, h7, h⟩ := obind_some h
    have wh7 : callFn pr (X pr) 153 [.ms 0 0 n0, .int .i64 a1, .int .i64 a2, .fn (.func 131) [] []] [.cells (icl e0)] = some (.tup [], false, [.cells (icl v6)]) := W153 h7
    cases h
    exact stepO_out (by simp only [go_sem, seval, c149_0, St149_0, h5, wh7, Ex149_0] <;> rfl)
  · rcases cond_split h with ⟨h8, h⟩ | ⟨h8, h⟩
    · cases h
    · cases h
theorem l149_0 (n0 : Nat) (a1 : Int) (a2 : Int) (a3 : Int) (e0 : List Int) {s0 : Unit} {d} (h : itO (s149_0 n0 a1 a2 a3 e0) s0 = some d) : X pr (.loop c149_0) (St149_0 n0 a1 a2 a3 e0 s0) = some (Ex149_0 n0 a1 a2 a3 e0 d) := X_itO (b149_0 n0 a1 a2 a3 e0) (fun d hh => by cases hh) h
noncomputable def f149 (n0 : Nat) (a1 : Int) (a2 : Int) (a3 : Int) (e0 : List Int) : Option (List Int) :=
  obind (itO (s149_0 n0 a1 a2 a3 e0) ()) fun d9 =>
  some d9
theorem W149 {n0 : Nat} {a1 : Int} {a2 : Int} {a3 : Int} {e0 : List Int} {r} (h : f149 n0 a1 a2 a3 e0 = some r) : callFn pr (X pr) 149 [.ms 0 0 n0, .int .i64 a1, .int .i64 a2, .int .i64 a3, .fn (.func 131) [] []] [.cells (icl e0)] = some (.tup [], false, [.cells (icl r)]) := by
  unfold f149 at h
  obtain ⟨d9, h10, h⟩ := obind_some h
  have wh10 : X pr (.loop c149_0) ⟨[(0, .ms 0 0 n0, false), (1, .int .i64 a1, false), (2, .int .i64 a2, false), (3, .int .i64 a3, false), (4, .fn (.func 131) [] [], false), (10, .bool true, false), (11, .bool true, false)], [.cells (icl e0)]⟩ = some (.ret, ⟨[], [.cells (icl d9)]⟩) := l149_0 n0 a1 a2 a3 e0 h10
  have hr : d9 = r := Option.some.inj h
  subst hr
  rw [callFn_at (show pr.fns 149 = some c149 from rfl) (by simp)]
  simp only [go_sem, seval, c149, wh10] <;> rfl
noncomputable def f130 (n0 : Nat) (e0 : List Int) : Option (List Int) :=
  obind (f150 (wrapF .u64 (n0 : Int))) fun v1 =>
  obind (f149 n0 0 (n0 : Int) v1 e0) fun v3 =>
  some v3
theorem W130 {n0 : Nat} {e0 : List Int} {r} (h : f130 n0 e0 = some r) : callFn pr (X pr) 130 [.ms 0 0 n0, .fn (.func 131) [] []] [.cells (icl e0)] = some (.tup [], false, [.cells (icl r)]) := by
  unfold f130 at h
  obtain ⟨v1, h2, h⟩ := obind_some h
  have wh2 : callIso pr (X pr) 150 [.int .u64 (wrapF .u64 (n0 : Int))] = some (.int .i64 v1, false) := W150 h2
  obtain ⟨v3, h4, h⟩ := obind_some h
  have wh4 : callFn pr (X pr) 149 [.ms 0 0 n0, .int .i64 0, .int .i64 (n0 : Int), .int .i64 v1, .fn (.func 131) [] []] [.cells (icl e0)] = some (.tup [], false, [.cells (icl v3)]) := W149 h4
  have hr : v3 = r := Option.some.inj h
  subst hr
  rw [callFn_at (show pr.fns 130 = some c130 from rfl) (by simp)]
  simp only [go_sem, seval, c130, wh2, wh4] <;> rfl
noncomputable def s76_0 (a0 : Option (List Int)) (a1 : Int) (s0 : Int × Int × (List Int)) : Option ((Int × Int × (List Int)) ⊕ ((Int × Int × (List Int)))) :=
  cond (decide (s0.2.1 < ((a0.getD []).length : Int)))
   (obind (idxO (a0.getD []) s0.2.1) fun v17 =>
    obind (idxM ((a0.getD []).length) s0.2.2 s0.2.1) fun v19 =>
    some (.inl (wrapF .i64 (s0.1 + v17), wrapF .i64 (s0.2.1 + 1), s0.2.2.set s0.2.1.toNat v17)))
   (some (.inr (s0.1, s0.2.1, s0.2.2)))
def St76_0 (a0 : Option (List Int)) (a1 : Int) (s0 : Int × Int × (List Int)) : ASt := ⟨[(1, .int .i64 a1, false), (7, .ms 0 0 ((a0.getD []).length), false), (8, .int .i64 s0.1, false), (21, sl 1 vint a0, false), (22, .int .i64 ((a0.getD []).length : Int), false), (23, .int .i64 s0.2.1, false)], [.cells (icl s0.2.2)]⟩
def Ex76_0 (a0 : Option (List Int)) (a1 : Int) (d : (Int × Int × (List Int))) : AExit × ASt := (.exit 0, ⟨[(1, .int .i64 a1, false), (7, .ms 0 0 ((a0.getD []).length), false), (8, .int .i64 d.1, false), (21, sl 1 vint a0, false), (22, .int .i64 ((a0.getD []).length : Int), false), (23, .int .i64 d.2.1, false), (24, .bool false, false)], [.cells (icl d.2.2)]⟩)
theorem b76_0 (a0 : Option (List Int)) (a1 : Int) (s0 : Int × Int × (List Int)) (r) (h : s76_0 a0 a1 s0 = some r) : stepO pr c76_0 (St76_0 a0 a1) (Ex76_0 a0 a1) s0 r := by
  unfold s76_0 at h
  rcases cond_split h with ⟨h16, h⟩ | ⟨h16, h⟩
  · obtain ⟨v17, h18, h⟩ := obind_some h
    obtain ⟨v19, h20, h⟩ := obind_some h
    cases h
    exact stepO_in (st' := ⟨[(1, .int .i64 a1, false), (7, .ms 0 0 ((a0.getD []).length), false), (8, .int .i64 (wrapF .i64 (s0.1 + v17)), false), (21, sl 1 vint a0, false), (22, .int .i64 ((a0.getD []).length : Int), false), (23, .int .i64 (wrapF .i64 (s0.2.1 + 1)), false)], [.cells (icl (s0.2.2.set s0.2.1.toNat v17))]⟩) (by simp only [go_sem, seval, c76_0, St76_0, h16, idxR_O h18, idx_ms_O h20, ld_ms_O h20, st_ms_O h20] <;> rfl) (gc_same (Nat.le_refl _))
  · cases h
    exact stepO_out (by simp only [go_sem, seval, c76_0, St76_0, h16, Ex76_0] <;> rfl)
theorem l76_0 (a0 : Option (List Int)) (a1 : Int) {s0 : Int × Int × (List Int)} {d} (h : itO (s76_0 a0 a1) s0 = some d) : X pr (.loop c76_0) (St76_0 a0 a1 s0) = some (Ex76_0 a0 a1 d) := X_itO (b76_0 a0 a1) (fun d hh => by cases hh) h
noncomputable def f76 (a0 : Option (List Int)) (a1 : Int) : Option (Int × Int) :=
  obind (f125 a0 a1) fun v1 =>
  cond (decide (v1 = 0))
   (obind (mkO ((a0.getD []).length)) fun v4 =>
    obind (itO (s76_0 a0 a1) (0, 0, v4)) fun d21 =>
    obind (f130 ((a0.getD []).length) d21.2.2) fun v23 =>
    obind (quoO .i64 (wrapF .i64 ((wrapF .i64 (d21.1 + a1)) - 1)) a1) fun v25 =>
    cond (decide (0 < (((a0.getD []).length) : Int)))
     (obind (idxM ((a0.getD []).length) v23 0) fun v28 =>
      cond (decide (a1 < (((a0.getD []).length) : Int)))
       (obind (idxM ((a0.getD []).length) v23 (wrapF .i64 (a1 - 1))) fun v31 =>
        obind (idxM ((a0.getD []).length) v23 a1) fun v33 =>
        some (max (max v25 v28) (wrapF .i64 (v31 + v33)), 0))
       (some (max v25 v28, 0)))
     (cond (decide (a1 < (((a0.getD []).length) : Int)))
       (obind (idxM ((a0.getD []).length) v23 (wrapF .i64 (a1 - 1))) fun v36 =>
        obind (idxM ((a0.getD []).length) v23 a1) fun v38 =>
        some (max v25 (wrapF .i64 (v36 + v38)), 0))
       (some (v25, 0))))
   (some (0, v1))
theorem W76 {a0 : Option (List Int)} {a1 : Int} {r} (h : f76 a0 a1 = some r) : callIso pr (X pr) 76 [sl 1 vint a0, .int .i64 a1] = some (.tup [.int .i64 r.1, .int .i64 r.2], false) := by
  unfold f76 at h
  obtain ⟨v1, h2, h⟩ := obind_some h
  have wh2 : callIso pr (X pr) 125 [sl 1 vint a0, .int .i64 a1] = some (.int .i64 v1, false) := W125 h2
  rcases cond_split h with ⟨h3, h⟩ | ⟨h3, h⟩
  · obtain ⟨v4, h5, h⟩ := obind_some h
    obtain ⟨d21, h22, h⟩ := obind_some h
    have wh22 : X pr (.loop c76_0) ⟨[(1, .int .i64 a1, false), (7, .ms 0 0 ((a0.getD []).length), false), (8, .int .i64 0, false), (21, sl 1 vint a0, false), (22, .int .i64 ((a0.getD []).length : Int), false), (23, .int .i64 0, false)], [.cells (icl v4)]⟩ = some (.exit 0, ⟨[(1, .int .i64 a1, false), (7, .ms 0 0 ((a0.getD []).length), false), (8, .int .i64 d21.1, false), (21, sl 1 vint a0, false), (22, .int .i64 ((a0.getD []).length : Int), false), (23, .int .i64 d21.2.1, false), (24, .bool false, false)], [.cells (icl d21.2.2)]⟩) := l76_0 a0 a1 h22
    obtain ⟨v23, h24, h⟩ := obind_some h
    have wh24 : callFn pr (X pr) 130 [.ms 0 0 ((a0.getD []).length), .fn (.func 131) [] []] [.cells (icl d21.2.2)] = some (.tup [], false, [.cells (icl v23)]) := W130 h24
    obtain ⟨v25, h26, h⟩ := obind_some h
    rcases cond_split h with ⟨h27, h⟩ | ⟨h27, h⟩
    · obtain ⟨v28, h29, h⟩ := obind_some h
      rcases cond_split h with ⟨h30, h⟩ | ⟨h30, h⟩
      · obtain ⟨v31, h32, h⟩ := obind_some h
        obtain ⟨v33, h34, h⟩ := obind_some h
        have hr : (max (max v25 v28) (wrapF .i64 (v31 + v33)), 0) = r := Option.some.inj h
        subst hr
        have this : ∃ hh, callFn pr (X pr) 76 [sl 1 vint a0, .int .i64 a1] [] = some (.tup [.int .i64 (max (max v25 v28) (wrapF .i64 (v31 + v33))), .int .i64 0], false, hh) := by
          rw [callFn_at (show pr.fns 76 = some c76 from rfl) (by simp)]
          simp only [go_sem, seval, c76, wh2, h3, mksl_O h5, wh22, wh24, b_quo_O h26, h27, idx_ms_O h29, (show loadCellsA (icl v23) 0 1 = some [.int .i64 v28] from ld_ms_O h29), (show ∀ x, storeCellsA (icl v23) 0 [.int .i64 x] = some (icl (v23.set 0 x)) from fun x => st_ms_O h29), h30, idx_ms_O h32, ld_ms_O h32, st_ms_O h32, idx_ms_O h34, ld_ms_O h34, st_ms_O h34]
          exact ⟨_, rfl⟩
        obtain ⟨hh, this⟩ := this
        exact callIso_of rfl this (by first | rfl | simp only [go_sem, seval]) (by first | rfl | simp only [go_sem, seval])
      · have hr : (max v25 v28, 0) = r := Option.some.inj h
        subst hr
        have this : ∃ hh, callFn pr (X pr) 76 [sl 1 vint a0, .int .i64 a1] [] = some (.tup [.int .i64 (max v25 v28), .int .i64 0], false, hh) := by
          rw [callFn_at (show pr.fns 76 = some c76 from rfl) (by simp)]
          simp only [go_sem, seval, c76, wh2, h3, mksl_O h5, wh22, wh24, b_quo_O h26, h27, idx_ms_O h29, (show loadCellsA (icl v23) 0 1 = some [.int .i64 v28] from ld_ms_O h29), (show ∀ x, storeCellsA (icl v23) 0 [.int .i64 x] = some (icl (v23.set 0 x)) from fun x => st_ms_O h29), h30]
          exact ⟨_, rfl⟩
        obtain ⟨hh, this⟩ := this
        exact callIso_of rfl this (by first | rfl | simp only [go_sem, seval]) (by first | rfl | simp only [go_sem, seval])
    · rcases cond_split h with ⟨h35, h⟩ | ⟨h35, h⟩
      · obtain ⟨v36, h37, h⟩ := obind_some h
        obtain ⟨v38, h39, h⟩ := obind_some h
        have hr : (max v25 (wrapF .i64 (v36 + v38)), 0) = r := Option.some.inj h
        subst hr
        have this : ∃ hh, callFn pr (X pr) 76 [sl 1 vint a0, .int .i64 a1] [] = some (.tup [.int .i64 (max v25 (wrapF .i64 (v36 + v38))), .int .i64 0], false, hh) := by
          rw [callFn_at (show pr.fns 76 = some c76 from rfl) (by simp)]
          simp only [go_sem, seval, c76, wh2, h3, mksl_O h5, wh22, wh24, b_quo_O h26, h27, h35, idx_ms_O h37, ld_ms_O h37, st_ms_O h37, idx_ms_O h39, ld_ms_O h39, st_ms_O h39]
          exact ⟨_, rfl⟩
        obtain ⟨hh, this⟩ := this
        exact callIso_of rfl this (by first | rfl | simp only [go_sem, seval]) (by first | rfl | simp only [go_sem, seval])
      · have hr : (v25, 0) = r := Option.some.inj h
        subst hr
        have this : ∃ hh, callFn pr (X pr) 76 [sl 1 vint a0, .int .i64 a1] [] = some (.tup [.int .i64 v25, .int .i64 0], false, hh) := by
          rw [callFn_at (show pr.fns 76 = some c76 from rfl) (by simp)]
          simp only [go_sem, seval, c76, wh2, h3, mksl_O h5, wh22, wh24, b_quo_O h26, h27, h35]
          exact ⟨_, rfl⟩
        obtain ⟨hh, this⟩ := this
        exact callIso_of rfl this (by first | rfl | simp only [go_sem, seval]) (by first | rfl | simp only [go_sem, seval])
  · have hr : (0, v1) = r := Option.some.inj h
    subst hr
    have this : ∃ hh, callFn pr (X pr) 76 [sl 1 vint a0, .int .i64 a1] [] = some (.tup [.int .i64 0, .int .i64 v1], false, hh) := by
      rw [callFn_at (show pr.fns 76 = some c76 from rfl) (by simp)]
      simp only [go_sem, seval, c76, wh2, h3]
      exact ⟨_, rfl⟩
    obtain ⟨hh, this⟩ := this
    exact callIso_of rfl this (by first | rfl | simp only [go_sem, seval]) (by first | rfl | simp only [go_sem, seval])
noncomputable def s132_1 (v1 : List Int) (s0 : Int × (List Int)) (s1 : Int × (List Int)) : Option ((Int × (List Int)) ⊕ ((Int × (List Int)))) :=
  cond (decide (0 < s1.1))
   (obind (idxM v1.length s1.2 s1.1) fun v78 =>
    obind (idxM v1.length s1.2 (wrapF .i64 (s1.1 - 1))) fun v80 =>
    cond (decide (v80 < v78))
     (obind (idxM v1.length (s1.2.set s1.1.toNat v80) (wrapF .i64 (s1.1 - 1))) fun v83 =>
      some (.inl (wrapF .i64 (s1.1 - 1), (s1.2.set s1.1.toNat v80).set (wrapF .i64 (s1.1 - 1)).toNat v78)))
     (some (.inr (s1.1, s1.2))))
   (some (.inr (s1.1, s1.2)))
def St132_1 (v1 : List Int) (s0 : Int × (List Int)) (s1 : Int × (List Int)) : ASt := ⟨[(3, .ms 0 0 v1.length, false), (4, .int .i64 s0.1, false), (5, .int .i64 s1.1, false)], [.cells (icl s1.2)]⟩
def Ex132_1 (v1 : List Int) (s0 : Int × (List Int)) (d : (Int × (List Int))) : AExit × ASt := (.exit 2, ⟨[(3, .ms 0 0 v1.length, false), (4, .int .i64 s0.1, false), (5, .int .i64 d.1, false), (29, .bool false, false)], [.cells (icl d.2)]⟩)
theorem b132_1 (v1 : List Int) (s0 : Int × (List Int)) (s1 : Int × (List Int)) (r) (h : s132_1 v1 s0 s1 = some r) : stepO pr c132_1 (St132_1 v1 s0) (Ex132_1 v1 s0) s1 r := by
  unfold s132_1 at h
  rcases cond_split h with ⟨h77, h⟩ | ⟨h77, h⟩
  · obtain ⟨v78, h79, h⟩ := obind_some h
    obtain ⟨v80, h81, h⟩ := obind_some h
    rcases cond_split h with ⟨h82, h⟩ | ⟨h82, h⟩
    · obtain ⟨v83, h84, h⟩ := obind_some h
      cases h
      exact stepO_in (st' := ⟨[(3, .ms 0 0 v1.length, false), (4, .int .i64 s0.1, false), (5, .int .i64 (wrapF .i64 (s1.1 - 1)), false)], [.cells (icl ((s1.2.set s1.1.toNat v80).set (wrapF .i64 (s1.1 - 1)).toNat v78))]⟩) (by simp only [go_sem, seval, c132_1, St132_1, h77, idx_ms_O h79, ld_ms_O h79, st_ms_O h79, idx_ms_O h81, ld_ms_O h81, st_ms_O h81, h82, idx_ms_O h84, ld_ms_O h84, st_ms_O h84] <;> rfl) (gc_same (Nat.le_refl _))
    · cases h
      exact stepO_out (by simp only [go_sem, seval, c132_1, St132_1, h77, idx_ms_O h79, ld_ms_O h79, st_ms_O h79, idx_ms_O h81, ld_ms_O h81, st_ms_O h81, h82, Ex132_1] <;> rfl)
  · cases h
    exact stepO_out (by simp only [go_sem, seval, c132_1, St132_1, h77, Ex132_1] <;> rfl)
theorem l132_1 (v1 : List Int) (s0 : Int × (List Int)) {s1 : Int × (List Int)} {d} (h : itO (s132_1 v1 s0) s1 = some d) : X pr (.loop c132_1) (St132_1 v1 s0 s1) = some (Ex132_1 v1 s0 d) := X_itO (b132_1 v1 s0) (fun d hh => by cases hh) h
noncomputable def s132_0 (v1 : List Int) (s0 : Int × (List Int)) : Option ((Int × (List Int)) ⊕ ((Int × (List Int)))) :=
  cond (decide (s0.1 < (v1.length : Int)))
   (obind (itO (s132_1 v1 s0) (s0.1, s0.2)) fun d85 =>
    some (.inl (wrapF .i64 (s0.1 + 1), d85.2)))
   (some (.inr (s0.1, s0.2)))
def St132_0 (v1 : List Int) (s0 : Int × (List Int)) : ASt := ⟨[(3, .ms 0 0 v1.length, false), (4, .int .i64 s0.1, false)], [.cells (icl s0.2)]⟩
def Ex132_0 (v1 : List Int) (d : (Int × (List Int))) : AExit × ASt := (.exit 0, ⟨[(3, .ms 0 0 v1.length, false), (4, .int .i64 d.1, false), (12, .bool false, false)], [.cells (icl d.2)]⟩)
theorem b132_0 (v1 : List Int) (s0 : Int × (List Int)) (r) (h : s132_0 v1 s0 = some r) : stepO pr c132_0 (St132_0 v1) (Ex132_0 v1) s0 r := by
  unfold s132_0 at h
  rcases cond_split h with ⟨h60, h⟩ | ⟨h60, h⟩
  · obtain ⟨d85, h86, h⟩ := obind_some h
    have wh86 : X pr (.loop c132_1) ⟨[(3, .ms 0 0 v1.length, false), (4, .int .i64 s0.1, false), (5, .int .i64 s0.1, false)], [.cells (icl s0.2)]⟩ = some (.exit 2, ⟨[(3, .ms 0 0 v1.length, false), (4, .int .i64 s0.1, false), (5, .int .i64 d85.1, false), (29, .bool false, false)], [.cells (icl d85.2)]⟩) := l132_1 v1 s0 h86
    cases h
    exact stepO_in (st' := ⟨[(3, .ms 0 0 v1.length, false), (4, .int .i64 (wrapF .i64 (s0.1 + 1)), false)], [.cells (icl d85.2)]⟩) (by simp only [go_sem, seval, c132_0, St132_0, h60, wh86] <;> rfl) (gc_same (Nat.le_refl _))
  · cases h
    exact stepO_out (by simp only [go_sem, seval, c132_0, St132_0, h60, Ex132_0] <;> rfl)
theorem l132_0 (v1 : List Int) {s0 : Int × (List Int)} {d} (h : itO (s132_0 v1) s0 = some d) : X pr (.loop c132_0) (St132_0 v1 s0) = some (Ex132_0 v1 d) := X_itO (b132_0 v1) (fun d hh => by cases hh) h
noncomputable def f132 (a0 : Option (List Int)) : Option (Option (List Int)) :=
  obind (capO (a0.getD [])) fun v1 =>
  obind (itO (s132_0 v1) (0, v1)) fun d87 =>
  obind (takeM v1.length d87.2) fun v89 =>
  some (some v89)
theorem W132 {a0 : Option (List Int)} {r} (h : f132 a0 = some r) : callIso pr (X pr) 132 [sl 1 vint a0] = some (sl 1 vint r, false) := by
  unfold f132 at h
  obtain ⟨v1, h2, h⟩ := obind_some h
  obtain ⟨d87, h88, h⟩ := obind_some h
  have wh88 : X pr (.loop c132_0) ⟨[(3, .ms 0 0 v1.length, false), (4, .int .i64 0, false)], [.cells (icl v1)]⟩ = some (.exit 0, ⟨[(3, .ms 0 0 v1.length, false), (4, .int .i64 d87.1, false), (12, .bool false, false)], [.cells (icl d87.2)]⟩) := l132_0 v1 h88
  obtain ⟨v89, h90, h⟩ := obind_some h
  have hr : some v89 = r := Option.some.inj h
  subst hr
  have this : callFn pr (X pr) 132 [sl 1 vint a0] [] = some (.ms 0 0 v1.length, false, [.cells (icl d87.2)]) := by
    rw [callFn_at (show pr.fns 132 = some c132 from rfl) (by simp)]
    simp only [go_sem, seval, c132, appB_O h2, wh88, frz_ms_O h90]
  exact callIso_of rfl this (by simp only [go_sem, seval, frz_ms_O h90] <;> rfl) (by simp only [go_sem, seval])
noncomputable def s79_0 (a1 : Int) (v1 : Option (List Int)) (s0 : Int × Int × Int) : Option ((Int × Int × Int) ⊕ ((Int × Int × Int))) :=
  cond (decide (s0.2.2 < ((v1.getD []).length : Int)))
   (obind (idxO (v1.getD []) s0.2.2) fun v10 =>
    some (.inl (wrapF .i64 (s0.1 + v10), max s0.2.1 v10, wrapF .i64 (s0.2.2 + 1))))
   (some (.inr (s0.1, s0.2.1, s0.2.2)))
def St79_0 (a1 : Int) (v1 : Option (List Int)) (s0 : Int × Int × Int) : ASt := ⟨[(1, .int .i64 a1, false), (5, sl 1 vint v1, false), (6, .int .i64 s0.1, false), (7, .int .i64 s0.2.1, false), (8, .int .i64 s0.2.2, false)], []⟩
def Ex79_0 (a1 : Int) (v1 : Option (List Int)) (d : (Int × Int × Int)) : AExit × ASt := (.exit 0, ⟨[(1, .int .i64 a1, false), (5, sl 1 vint v1, false), (6, .int .i64 d.1, false), (7, .int .i64 d.2.1, false), (8, .int .i64 d.2.2, false), (14, .bool false, false)], []⟩)
theorem b79_0 (a1 : Int) (v1 : Option (List Int)) (s0 : Int × Int × Int) (r) (h : s79_0 a1 v1 s0 = some r) : stepO pr c79_0 (St79_0 a1 v1) (Ex79_0 a1 v1) s0 r := by
  unfold s79_0 at h
  rcases cond_split h with ⟨h9, h⟩ | ⟨h9, h⟩
  · obtain ⟨v10, h11, h⟩ := obind_some h
    cases h
    exact stepO_in (st' := ⟨[(1, .int .i64 a1, false), (5, sl 1 vint v1, false), (6, .int .i64 (wrapF .i64 (s0.1 + v10)), false), (7, .int .i64 (max s0.2.1 v10), false), (8, .int .i64 (wrapF .i64 (s0.2.2 + 1)), false)], []⟩) (by simp only [go_sem, seval, c79_0, St79_0, h9, idxR_O h11] <;> rfl) (gc_same (Nat.le_refl _))
  · cases h
    exact stepO_out (by simp only [go_sem, seval, c79_0, St79_0, h9, Ex79_0] <;> rfl)
theorem l79_0 (a1 : Int) (v1 : Option (List Int)) {s0 : Int × Int × Int} {d} (h : itO (s79_0 a1 v1) s0 = some d) : X pr (.loop c79_0) (St79_0 a1 v1 s0) = some (Ex79_0 a1 v1 d) := X_itO (b79_0 a1 v1) (fun d hh => by cases hh) h
noncomputable def f79 (a0 : Option (List Int)) (a1 : Int) : Option Int :=
  obind (f132 a0) fun v1 =>
  obind (itO (s79_0 a1 v1) (0, 0, 0)) fun d12 =>
  obind (quoO .i64 (wrapF .i64 ((wrapF .i64 (d12.1 + a1)) - 1)) a1) fun v14 =>
  cond (decide (a1 < ((v1.getD []).length : Int)))
   (obind (idxO (v1.getD []) (wrapF .i64 (a1 - 1))) fun v17 =>
    obind (idxO (v1.getD []) a1) fun v19 =>
    some (max (max d12.2.1 v14) (wrapF .i64 (v17 + v19))))
   (some (max d12.2.1 v14))
theorem W79 {a0 : Option (List Int)} {a1 : Int} {r} (h : f79 a0 a1 = some r) : callIso pr (X pr) 79 [sl 1 vint a0, .int .i64 a1] = some (.int .i64 r, false) := by
  unfold f79 at h
  obtain ⟨v1, h2, h⟩ := obind_some h
  have wh2 : callIso pr (X pr) 132 [sl 1 vint a0] = some (sl 1 vint v1, false) := W132 h2
  obtain ⟨d12, h13, h⟩ := obind_some h
  have wh13 : X pr (.loop c79_0) ⟨[(1, .int .i64 a1, false), (5, sl 1 vint v1, false), (6, .int .i64 0, false), (7, .int .i64 0, false), (8, .int .i64 0, false)], []⟩ = some (.exit 0, ⟨[(1, .int .i64 a1, false), (5, sl 1 vint v1, false), (6, .int .i64 d12.1, false), (7, .int .i64 d12.2.1, false), (8, .int .i64 d12.2.2, false), (14, .bool false, false)], []⟩) := l79_0 a1 v1 h13
  obtain ⟨v14, h15, h⟩ := obind_some h
  rcases cond_split h with ⟨h16, h⟩ | ⟨h16, h⟩
  · obtain ⟨v17, h18, h⟩ := obind_some h
    obtain ⟨v19, h20, h⟩ := obind_some h
    have hr : max (max d12.2.1 v14) (wrapF .i64 (v17 + v19)) = r := Option.some.inj h
    subst hr
    have this : ∃ hh, callFn pr (X pr) 79 [sl 1 vint a0, .int .i64 a1] [] = some (.int .i64 (max (max d12.2.1 v14) (wrapF .i64 (v17 + v19))), false, hh) := by
      rw [callFn_at (show pr.fns 79 = some c79 from rfl) (by simp)]
      simp only [go_sem, seval, c79, wh2, wh13, b_quo_O h15, h16, idxR_O h18, idxR_O h20]
      exact ⟨_, rfl⟩
    obtain ⟨hh, this⟩ := this
    exact callIso_of rfl this (by first | rfl | simp only [go_sem, seval]) (by first | rfl | simp only [go_sem, seval])
  · have hr : max d12.2.1 v14 = r := Option.some.inj h
    subst hr
    have this : ∃ hh, callFn pr (X pr) 79 [sl 1 vint a0, .int .i64 a1] [] = some (.int .i64 (max d12.2.1 v14), false, hh) := by
      rw [callFn_at (show pr.fns 79 = some c79 from rfl) (by simp)]
      simp only [go_sem, seval, c79, wh2, wh13, b_quo_O h15, h16]
      exact ⟨_, rfl⟩
    obtain ⟨hh, this⟩ := this
    exact callIso_of rfl this (by first | rfl | simp only [go_sem, seval]) (by first | rfl | simp only [go_sem, seval])
noncomputable def f11 (a0 : Option (List Int)) (a1 : Int) (a2 : Option (List Int)) : Option Bool :=
  obind (E14) fun v1 =>
  cond v1
   (cond (decide (6 < ((a0.getD []).length : Int)))
     (cond (decide (((a0.getD []).length : Int) = 9))
       (cond (decide (9 < ((a2.getD []).length : Int)))
         (some v1)
         (obind (E62 a0) fun v7 =>
          obind (f74 v7 a1) fun v9 =>
          obind (E62 a2) fun v11 =>
          obind (f75 v7 a1 v11) fun v13 =>
          obind (f76 v7 a1) fun v15 =>
          obind (f77 a0 a1) fun v17 =>
          cond (decide (v17 = 0))
           (obind (f78 10 a0 a1 none) fun v20 =>
            obind (f79 a0 a1) fun v22 =>
            obind (f80 a0 a1 a2) fun v24 =>
            cond (decide (v24 = 0))
             (obind (f81 a0 a1 a2) fun v27 =>
              obind (E39 v9.1 v20.1) fun v29 =>
              cond v29
               (obind (E40 v9.2.1 v9.2.2 v17 v20.2) fun v32 =>
                cond v32
                 (obind (E40 v13.1 v13.2 v24 v27) fun v35 =>
                  cond v35
                   (obind (E40 v15.1 v15.2 v17 v22) fun v38 =>
                    some v38)
                   (some false))
                 (some false))
               (some false))
             (obind (E39 v9.1 v20.1) fun v40 =>
              cond v40
               (obind (E40 v9.2.1 v9.2.2 v17 v20.2) fun v43 =>
                cond v43
                 (obind (E40 v13.1 v13.2 v24 0) fun v46 =>
                  cond v46
                   (obind (E40 v15.1 v15.2 v17 v22) fun v49 =>
                    some v49)
                   (some false))
                 (some false))
               (some false)))
           (obind (E39 v9.1 none) fun v51 =>
            cond v51
             (obind (E40 v9.2.1 v9.2.2 v17 0) fun v54 =>
              cond v54
               (obind (E40 v13.1 v13.2 v17 0) fun v57 =>
                cond v57
                 (obind (E40 v15.1 v15.2 v17 0) fun v60 =>
                  some v60)
                 (some false))
               (some false))
             (some false))))
       (some v1))
     (cond (decide (9 < ((a2.getD []).length : Int)))
       (some v1)
       (obind (E62 a0) fun v63 =>
        obind (f74 v63 a1) fun v65 =>
        obind (E62 a2) fun v67 =>
        obind (f75 v63 a1 v67) fun v69 =>
        obind (f76 v63 a1) fun v71 =>
        obind (f77 a0 a1) fun v73 =>
        cond (decide (v73 = 0))
         (obind (f78 10 a0 a1 none) fun v76 =>
          obind (f79 a0 a1) fun v78 =>
          obind (f80 a0 a1 a2) fun v80 =>
          cond (decide (v80 = 0))
           (obind (f81 a0 a1 a2) fun v83 =>
            obind (E39 v65.1 v76.1) fun v85 =>
            cond v85
             (obind (E40 v65.2.1 v65.2.2 v73 v76.2) fun v88 =>
              cond v88
               (obind (E40 v69.1 v69.2 v80 v83) fun v91 =>
                cond v91
                 (obind (E40 v71.1 v71.2 v73 v78) fun v94 =>
                  some v94)
                 (some false))
               (some false))
             (some false))
           (obind (E39 v65.1 v76.1) fun v96 =>
            cond v96
             (obind (E40 v65.2.1 v65.2.2 v73 v76.2) fun v99 =>
              cond v99
               (obind (E40 v69.1 v69.2 v80 0) fun v102 =>
                cond v102
                 (obind (E40 v71.1 v71.2 v73 v78) fun v105 =>
                  some v105)
                 (some false))
               (some false))
             (some false)))
         (obind (E39 v65.1 none) fun v107 =>
          cond v107
           (obind (E40 v65.2.1 v65.2.2 v73 0) fun v110 =>
            cond v110
             (obind (E40 v69.1 v69.2 v73 0) fun v113 =>
              cond v113
               (obind (E40 v71.1 v71.2 v73 0) fun v116 =>
                some v116)
               (some false))
             (some false))
           (some false)))))
   (some v1)
theorem W11 {a0 : Option (List Int)} {a1 : Int} {a2 : Option (List Int)} {r} (h : f11 a0 a1 a2 = some r) : callIso pr (X pr) 11 [sl 1 vint a0, .int .i64 a1, sl 1 vint a2] = some (.bool r, false) := by
  unfold f11 at h
  obtain ⟨v1, h2, h⟩ := obind_some h
  have wh2 : callIso pr (X pr) 14 [] = some (.bool v1, false) := WE14 h2
  rcases cond_split h with ⟨h3, h⟩ | ⟨h3, h⟩
  · rcases cond_split h with ⟨h4, h⟩ | ⟨h4, h⟩
    · rcases cond_split h with ⟨h5, h⟩ | ⟨h5, h⟩
      · rcases cond_split h with ⟨h6, h⟩ | ⟨h6, h⟩
        · have hr : v1 = r := Option.some.inj h
          subst hr
          have this : ∃ hh, callFn pr (X pr) 11 [sl 1 vint a0, .int .i64 a1, sl 1 vint a2] [] = some (.bool v1, false, hh) := by
            rw [callFn_at (show pr.fns 11 = some c11 from rfl) (by simp)]
            simp only [go_sem, seval, c11, wh2, h3, h4, h5, h6]
            exact ⟨_, rfl⟩
          obtain ⟨hh, this⟩ := this
          exact callIso_of rfl this (by first | rfl | simp only [go_sem, seval]) (by first | rfl | simp only [go_sem, seval])
        · obtain ⟨v7, h8, h⟩ := obind_some h
          have wh8 : callIso pr (X pr) 62 [sl 1 vint a0] = some (sl 1 vint v7, true) := WE62 h8
          obtain ⟨v9, h10, h⟩ := obind_some h
          have wh10 : callIso pr (X pr) 74 [sl 1 vint v7, .int .i64 a1] = some (.tup [sl 1 vint v9.1, .int .i64 v9.2.1, .int .i64 v9.2.2], false) := W74 h10
          obtain ⟨v11, h12, h⟩ := obind_some h
          have wh12 : callIso pr (X pr) 62 [sl 1 vint a2] = some (sl 1 vint v11, true) := WE62 h12
          obtain ⟨v13, h14, h⟩ := obind_some h
          have wh14 : callIso pr (X pr) 75 [sl 1 vint v7, .int .i64 a1, sl 1 vint v11] = some (.tup [.int .i64 v13.1, .int .i64 v13.2], false) := W75 h14
          obtain ⟨v15, h16, h⟩ := obind_some h
          have wh16 : callIso pr (X pr) 76 [sl 1 vint v7, .int .i64 a1] = some (.tup [.int .i64 v15.1, .int .i64 v15.2], false) := W76 h16
          obtain ⟨v17, h18, h⟩ := obind_some h
          have wh18 : callIso pr (X pr) 77 [sl 1 vint a0, .int .i64 a1] = some (.int .i64 v17, false) := W77 h18
          rcases cond_split h with ⟨h19, h⟩ | ⟨h19, h⟩
          · obtain ⟨v20, h21, h⟩ := obind_some h
            have wh21 : callIso pr (X pr) 78 [sl 1 vint a0, .int .i64 a1, .list true 0 []] = some (.tup [sl 1 vint v20.1, .int .i64 v20.2], false) := W78 10 h21
            obtain ⟨v22, h23, h⟩ := obind_some h
            have wh23 : callIso pr (X pr) 79 [sl 1 vint a0, .int .i64 a1] = some (.int .i64 v22, false) := W79 h23
            obtain ⟨v24, h25, h⟩ := obind_some h
            have wh25 : callIso pr (X pr) 80 [sl 1 vint a0, .int .i64 a1, sl 1 vint a2] = some (.int .i64 v24, false) := W80 h25
            rcases cond_split h with ⟨h26, h⟩ | ⟨h26, h⟩
            · obtain ⟨v27, h28, h⟩ := obind_some h
              have wh28 : callIso pr (X pr) 81 [sl 1 vint a0, .int .i64 a1, sl 1 vint a2] = some (.int .i64 v27, false) := W81 h28
              obtain ⟨v29, h30, h⟩ := obind_some h
              have wh30 : callIso pr (X pr) 39 [sl 1 vint v9.1, sl 1 vint v20.1] = some (.bool v29, false) := WE39 h30
              rcases cond_split h with ⟨h31, h⟩ | ⟨h31, h⟩
              · obtain ⟨v32, h33, h⟩ := obind_some h
                have wh33 : callIso pr (X pr) 40 [.int .i64 v9.2.1, .int .i64 v9.2.2, .int .i64 v17, .int .i64 v20.2] = some (.bool v32, false) := WE40 h33
                rcases cond_split h with ⟨h34, h⟩ | ⟨h34, h⟩
                · obtain ⟨v35, h36, h⟩ := obind_some h
                  have wh36 : callIso pr (X pr) 40 [.int .i64 v13.1, .int .i64 v13.2, .int .i64 v24, .int .i64 v27] = some (.bool v35, false) := WE40 h36
                  rcases cond_split h with ⟨h37, h⟩ | ⟨h37, h⟩
                  · obtain ⟨v38, h39, h⟩ := obind_some h
                    have wh39 : callIso pr (X pr) 40 [.int .i64 v15.1, .int .i64 v15.2, .int .i64 v17, .int .i64 v22] = some (.bool v38, false) := WE40 h39
                    have hr : v38 = r := Option.some.inj h
                    subst hr
                    have this : ∃ hh, callFn pr (X pr) 11 [sl 1 vint a0, .int .i64 a1, sl 1 vint a2] [] = some (.bool v38, false, hh) := by
                      rw [callFn_at (show pr.fns 11 = some c11 from rfl) (by simp)]
                      simp only [go_sem, seval, c11, wh2, h3, h4, h5, h6, wh8, wh10, wh12, wh14, wh16, wh18, h19, wh21, wh23, wh25, h26, wh28, wh30, h31, wh33, h34, wh36, h37, wh39]
                      exact ⟨_, rfl⟩
                    obtain ⟨hh, this⟩ := this
                    exact callIso_of rfl this (by first | rfl | simp only [go_sem, seval]) (by first | rfl | simp only [go_sem, seval])
                  · have hr : false = r := Option.some.inj h
                    subst hr
                    have this : ∃ hh, callFn pr (X pr) 11 [sl 1 vint a0, .int .i64 a1, sl 1 vint a2] [] = some (.bool false, false, hh) := by
                      rw [callFn_at (show pr.fns 11 = some c11 from rfl) (by simp)]
                      simp only [go_sem, seval, c11, wh2, h3, h4, h5, h6, wh8, wh10, wh12, wh14, wh16, wh18, h19, wh21, wh23, wh25, h26, wh28, wh30, h31, wh33, h34, wh36, h37]
                      exact ⟨_, rfl⟩
                    obtain ⟨hh, this⟩ := this
                    exact callIso_of rfl this (by first | rfl | simp only [go_sem, seval]) (by first | rfl | simp only [go_sem, seval])
                · have hr : false = r := Option.some.inj h
                  subst hr
                  have this : ∃ hh, callFn pr (X pr) 11 [sl 1 vint a0, .int .i64 a1, sl 1 vint a2] [] = some (.bool false, false, hh) := by
                    rw [callFn_at (show pr.fns 11 = some c11 from rfl) (by simp)]
                    simp only [go_sem, seval, c11, wh2, h3, h4, h5, h6, wh8, wh10, wh12, wh14, wh16, wh18, h19, wh21, wh23, wh25, h26, wh28, wh30, h31, wh33, h34]
                    exact ⟨_, rfl⟩
                  obtain ⟨hh, this⟩ := this
                  exact callIso_of rfl this (by first | rfl | simp only [go_sem, seval]) (by first | rfl | simp only [go_sem, seval])
              · have hr : false = r := Option.some.inj h
                subst hr
                have this : ∃ hh, callFn pr (X pr) 11 [sl 1 vint a0, .int .i64 a1, sl 1 vint a2] [] = some (.bool false, false, hh) := by
                  rw [callFn_at (show pr.fns 11 = some c11 from rfl) (by simp)]
                  simp only [go_sem, seval, c11, wh2, h3, h4, h5, h6, wh8, wh10, wh12, wh14, wh16, wh18, h19, wh21, wh23, wh25, h26, wh28, wh30, h31]
                  exact ⟨_, rfl⟩
                obtain ⟨hh, this⟩ := this
                exact callIso_of rfl this (by first | rfl | simp only [go_sem, seval]) (by first | rfl | simp only [go_sem, seval])
            · obtain ⟨v40, h41, h⟩ := obind_some h
              have wh41 : callIso pr (X pr) 39 [sl 1 vint v9.1, sl 1 vint v20.1] = some (.bool v40, false) := WE39 h41
              rcases cond_split h with ⟨h42, h⟩ | ⟨h42, h⟩
              · obtain ⟨v43, h44, h⟩ := obind_some h
                have wh44 : callIso pr (X pr) 40 [.int .i64 v9.2.1, .int .i64 v9.2.2, .int .i64 v17, .int .i64 v20.2] = some (.bool v43, false) := WE40 h44
                rcases cond_split h with ⟨h45, h⟩ | ⟨h45, h⟩
                · obtain ⟨v46, h47, h⟩ := obind_some h
                  have wh47 : callIso pr (X pr) 40 [.int .i64 v13.1, .int .i64 v13.2, .int .i64 v24, .int .i64 0] = some (.bool v46, false) := WE40 h47
                  rcases cond_split h with ⟨h48, h⟩ | ⟨h48, h⟩
                  · obtain ⟨v49, h50, h⟩ := obind_some h
                    have wh50 : callIso pr (X pr) 40 [.int .i64 v15.1, .int .i64 v15.2, .int .i64 v17, .int .i64 v22] = some (.bool v49, false) := WE40 h50
                    have hr : v49 = r := Option.some.inj h
                    subst hr
                    have this : ∃ hh, callFn pr (X pr) 11 [sl 1 vint a0, .int .i64 a1, sl 1 vint a2] [] = some (.bool v49, false, hh) := by
                      rw [callFn_at (show pr.fns 11 = some c11 from rfl) (by simp)]
                      simp only [go_sem, seval, c11, wh2, h3, h4, h5, h6, wh8, wh10, wh12, wh14, wh16, wh18, h19, wh21, wh23, wh25, h26, wh41, h42, wh44, h45, wh47, h48, wh50]
                      exact ⟨_, rfl⟩
                    obtain ⟨hh, this⟩ := this
                    exact callIso_of rfl this (by first | rfl | simp only [go_sem, seval]) (by first | rfl | simp only [go_sem, seval])
                  · have hr : false = r := Option.some.inj h
                    subst hr
                    have this : ∃ hh, callFn pr (X pr) 11 [sl 1 vint a0, .int .i64 a1, sl 1 vint a2] [] = some (.bool false, false, hh) := by
                      rw [callFn_at (show pr.fns 11 = some c11 from rfl) (by simp)]
                      simp only [go_sem, seval, c11, wh2, h3, h4, h5, h6, wh8, wh10, wh12, wh14, wh16, wh18, h19, wh21, wh23, wh25, h26, wh41, h42, wh44, h45, wh47, h48]
                      exact ⟨_, rfl⟩
                    obtain ⟨hh, this⟩ := this
                    exact callIso_of rfl this (by first | rfl | simp only [go_sem, seval]) (by first | rfl | simp only [go_sem, seval])
                · have hr : false = r := Option.some.inj h
                  subst hr
                  have this : ∃ hh, callFn pr (X pr) 11 [sl 1 vint a0, .int .i64 a1, sl 1 vint a2] [] = some (.bool false, false, hh) := by
                    rw [callFn_at (show pr.fns 11 = some c11 from rfl) (by simp)]
                    simp only [go_sem, seval, c11, wh2, h3, h4, h5, h6, wh8, wh10, wh12, wh14, wh16, wh18, h19, wh21, wh23, wh25, h26, wh41, h42, wh44, h45]
                    exact ⟨_, rfl⟩
                  obtain ⟨hh, this⟩ := this
                  exact callIso_of rfl this (by first | rfl | simp only [go_sem, seval]) (by first | rfl | simp only [go_sem, seval])
              · have hr : false = r := Option.some.inj h
                subst hr
                have this : ∃ hh, callFn pr (X pr) 11 [sl 1 vint a0, .int .i64 a1, sl 1 vint a2] [] = some (.bool false, false, hh) := by
                  rw [callFn_at (show pr.fns 11 = some c11 from rfl) (by simp)]
                  simp only [go_sem, seval, c11, wh2, h3, h4, h5, h6, wh8, wh10, wh12, wh14, wh16, wh18, h19, wh21, wh23, wh25, h26, wh41, h42]
                  exact ⟨_, rfl⟩
                obtain ⟨hh, this⟩ := this
                exact callIso_of rfl this (by first | rfl | simp only [go_sem, seval]) (by first | rfl | simp only [go_sem, seval])
          · obtain ⟨v51, h52, h⟩ := obind_some h
            have wh52 : callIso pr (X pr) 39 [sl 1 vint v9.1, .list true 0 []] = some (.bool v51, false) := WE39 h52
            rcases cond_split h with ⟨h53, h⟩ | ⟨h53, h⟩
            · obtain ⟨v54, h55, h⟩ := obind_some h
              have wh55 : callIso pr (X pr) 40 [.int .i64 v9.2.1, .int .i64 v9.2.2, .int .i64 v17, .int .i64 0] = some (.bool v54, false) := WE40 h55
              rcases cond_split h with ⟨h56, h⟩ | ⟨h56, h⟩
              · obtain ⟨v57, h58, h⟩ := obind_some h
                have wh58 : callIso pr (X pr) 40 [.int .i64 v13.1, .int .i64 v13.2, .int .i64 v17, .int .i64 0] = some (.bool v57, false) := WE40 h58
                rcases cond_split h with ⟨h59, h⟩ | ⟨h59, h⟩
                · obtain ⟨v60, h61, h⟩ := obind_some h
                  have wh61 : callIso pr (X pr) 40 [.int .i64 v15.1, .int .i64 v15.2, .int .i64 v17, .int .i64 0] = some (.bool v60, false) := WE40 h61
                  have hr : v60 = r := Option.some.inj h
                  subst hr
                  have this : ∃ hh, callFn pr (X pr) 11 [sl 1 vint a0, .int .i64 a1, sl 1 vint a2] [] = some (.bool v60, false, hh) := by
                    rw [callFn_at (show pr.fns 11 = some c11 from rfl) (by simp)]
                    simp only [go_sem, seval, c11, wh2, h3, h4, h5, h6, wh8, wh10, wh12, wh14, wh16, wh18, h19, wh52, h53, wh55, h56, wh58, h59, wh61]
                    exact ⟨_, rfl⟩
                  obtain ⟨hh, this⟩ := this
                  exact callIso_of rfl this (by first | rfl | simp only [go_sem, seval]) (by first | rfl | simp only [go_sem, seval])
                · have hr : false = r := Option.some.inj h
                  subst hr
                  have this : ∃ hh, callFn pr (X pr) 11 [sl 1 vint a0, .int .i64 a1, sl 1 vint a2] [] = some (.bool false, false, hh) := by
                    rw [callFn_at (show pr.fns 11 = some c11 from rfl) (by simp)]
                    simp only [go_sem, seval, c11, wh2, h3, h4, h5, h6, wh8, wh10, wh12, wh14, wh16, wh18, h19, wh52, h53, wh55, h56, wh58, h59]
                    exact ⟨_, rfl⟩
                  obtain ⟨hh, this⟩ := this
                  exact callIso_of rfl this (by first | rfl | simp only [go_sem, seval]) (by first | rfl | simp only [go_sem, seval])
              · have hr : false = r := Option.some.inj h
                subst hr
                have this : ∃ hh, callFn pr (X pr) 11 [sl 1 vint a0, .int .i64 a1, sl 1 vint a2] [] = some (.bool false, false, hh) := by
                  rw [callFn_at (show pr.fns 11 = some c11 from rfl) (by simp)]
                  simp only [go_sem, seval, c11, wh2, h3, h4, h5, h6, wh8, wh10, wh12, wh14, wh16, wh18, h19, wh52, h53, wh55, h56]
                  exact ⟨_, rfl⟩
                obtain ⟨hh, this⟩ := this
                exact callIso_of rfl this (by first | rfl | simp only [go_sem, seval]) (by first | rfl | simp only [go_sem, seval])
            · have hr : false = r := Option.some.inj h
              subst hr
              have this : ∃ hh, callFn pr (X pr) 11 [sl 1 vint a0, .int .i64 a1, sl 1 vint a2] [] = some (.bool false, false, hh) := by
                rw [callFn_at (show pr.fns 11 = some c11 from rfl) (by simp)]
                simp only [go_sem, seval, c11, wh2, h3, h4, h5, h6, wh8, wh10, wh12, wh14, wh16, wh18, h19, wh52, h53]
                exact ⟨_, rfl⟩
              obtain ⟨hh, this⟩ := this
              exact callIso_of rfl this (by first | rfl | simp only [go_sem, seval]) (by first | rfl | simp only [go_sem, seval])
      · have hr : v1 = r := Option.some.inj h
        subst hr
        have this : ∃ hh, callFn pr (X pr) 11 [sl 1 vint a0, .int .i64 a1, sl 1 vint a2] [] = some (.bool v1, false, hh) := by
          rw [callFn_at (show pr.fns 11 = some c11 from rfl) (by simp)]
          simp only [go_sem, seval, c11, wh2, h3, h4, h5]
          exact ⟨_, rfl⟩
        obtain ⟨hh, this⟩ := this
        exact callIso_of rfl this (by first | rfl | simp only [go_sem, seval]) (by first | rfl | simp only [go_sem, seval])
    · rcases cond_split h with ⟨h62, h⟩ | ⟨h62, h⟩
      · have hr : v1 = r := Option.some.inj h
        subst hr
        have this : ∃ hh, callFn pr (X pr) 11 [sl 1 vint a0, .int .i64 a1, sl 1 vint a2] [] = some (.bool v1, false, hh) := by
          rw [callFn_at (show pr.fns 11 = some c11 from rfl) (by simp)]
          simp only [go_sem, seval, c11, wh2, h3, h4, h62]
          exact ⟨_, rfl⟩
        obtain ⟨hh, this⟩ := this
        exact callIso_of rfl this (by first | rfl | simp only [go_sem, seval]) (by first | rfl | simp only [go_sem, seval])
      · obtain ⟨v63, h64, h⟩ := obind_some h
        have wh64 : callIso pr (X pr) 62 [sl 1 vint a0] = some (sl 1 vint v63, true) := WE62 h64
        obtain ⟨v65, h66, h⟩ := obind_some h
        have wh66 : callIso pr (X pr) 74 [sl 1 vint v63, .int .i64 a1] = some (.tup [sl 1 vint v65.1, .int .i64 v65.2.1, .int .i64 v65.2.2], false) := W74 h66
        obtain ⟨v67, h68, h⟩ := obind_some h
        have wh68 : callIso pr (X pr) 62 [sl 1 vint a2] = some (sl 1 vint v67, true) := WE62 h68
        obtain ⟨v69, h70, h⟩ := obind_some h
        have wh70 : callIso pr (X pr) 75 [sl 1 vint v63, .int .i64 a1, sl 1 vint v67] = some (.tup [.int .i64 v69.1, .int .i64 v69.2], false) := W75 h70
        obtain ⟨v71, h72, h⟩ := obind_some h
        have wh72 : callIso pr (X pr) 76 [sl 1 vint v63, .int .i64 a1] = some (.tup [.int .i64 v71.1, .int .i64 v71.2], false) := W76 h72
        obtain ⟨v73, h74, h⟩ := obind_some h
        have wh74 : callIso pr (X pr) 77 [sl 1 vint a0, .int .i64 a1] = some (.int .i64 v73, false) := W77 h74
        rcases cond_split h with ⟨h75, h⟩ | ⟨h75, h⟩
        · obtain ⟨v76, h77, h⟩ := obind_some h
          have wh77 : callIso pr (X pr) 78 [sl 1 vint a0, .int .i64 a1, .list true 0 []] = some (.tup [sl 1 vint v76.1, .int .i64 v76.2], false) := W78 10 h77
          obtain ⟨v78, h79, h⟩ := obind_some h
          have wh79 : callIso pr (X pr) 79 [sl 1 vint a0, .int .i64 a1] = some (.int .i64 v78, false) := W79 h79
          obtain ⟨v80, h81, h⟩ := obind_some h
          have wh81 : callIso pr (X pr) 80 [sl 1 vint a0, .int .i64 a1, sl 1 vint a2] = some (.int .i64 v80, false) := W80 h81
          rcases cond_split h with ⟨h82, h⟩ | ⟨h82, h⟩
          · obtain ⟨v83, h84, h⟩ := obind_some h
            have wh84 : callIso pr (X pr) 81 [sl 1 vint a0, .int .i64 a1, sl 1 vint a2] = some (.int .i64 v83, false) := W81 h84
            obtain ⟨v85, h86, h⟩ := obind_some h
            have wh86 : callIso pr (X pr) 39 [sl 1 vint v65.1, sl 1 vint v76.1] = some (.bool v85, false) := WE39 h86
            rcases cond_split h with ⟨h87, h⟩ | ⟨h87, h⟩
            · obtain ⟨v88, h89, h⟩ := obind_some h
              have wh89 : callIso pr (X pr) 40 [.int .i64 v65.2.1, .int .i64 v65.2.2, .int .i64 v73, .int .i64 v76.2] = some (.bool v88, false) := WE40 h89
              rcases cond_split h with ⟨h90, h⟩ | ⟨h90, h⟩
              · obtain ⟨v91, h92, h⟩ := obind_some h
                have wh92 : callIso pr (X pr) 40 [.int .i64 v69.1, .int .i64 v69.2, .int .i64 v80, .int .i64 v83] = some (.bool v91, false) := WE40 h92
                rcases cond_split h with ⟨h93, h⟩ | ⟨h93, h⟩
                · obtain ⟨v94, h95, h⟩ := obind_some h
                  have wh95 : callIso pr (X pr) 40 [.int .i64 v71.1, .int .i64 v71.2, .int .i64 v73, .int .i64 v78] = some (.bool v94, false) := WE40 h95
                  have hr : v94 = r := Option.some.inj h
                  subst hr
                  have this : ∃ hh, callFn pr (X pr) 11 [sl 1 vint a0, .int .i64 a1, sl 1 vint a2] [] = some (.bool v94, false, hh) := by
                    rw [callFn_at (show pr.fns 11 = some c11 from rfl) (by simp)]
                    simp only [go_sem, seval, c11, wh2, h3, h4, h62, wh64, wh66, wh68, wh70, wh72, wh74, h75, wh77, wh79, wh81, h82, wh84, wh86, h87, wh89, h90, wh92, h93, wh95]
                    exact ⟨_, rfl⟩
                  obtain ⟨hh, this⟩ := this
                  exact callIso_of rfl this (by first | rfl | simp only [go_sem, seval]) (by first | rfl | simp only [go_sem, seval])
                · have hr : false = r := Option.some.inj h
                  subst hr
                  have this : ∃ hh, callFn pr (X pr) 11 [sl 1 vint a0, .int .i64 a1, sl 1 vint a2] [] = some (.bool false, false, hh) := by
                    rw [callFn_at (show pr.fns 11 = some c11 from rfl) (by simp)]
                    simp only [go_sem, seval, c11, wh2, h3, h4, h62, wh64, wh66, wh68, wh70, wh72, wh74, h75, wh77, wh79, wh81, h82, wh84, wh86, h87, wh89, h90, wh92, h93]
                    exact ⟨_, rfl⟩
                  obtain ⟨hh, this⟩ := this
                  exact callIso_of rfl this (by first | rfl | simp only [go_sem, seval]) (by first | rfl | simp only [go_sem, seval])
              · have hr : false = r := Option.some.inj h
                subst hr
                have this : ∃ hh, callFn pr (X pr) 11 [sl 1 vint a0, .int .i64 a1, sl 1 vint a2] [] = some (.bool false, false, hh) := by
                  rw [callFn_at (show pr.fns 11 = some c11 from rfl) (by simp)]
                  simp only [go_sem, seval, c11, wh2, h3, h4, h62, wh64, wh66, wh68, wh70, wh72, wh74, h75, wh77, wh79, wh81, h82, wh84, wh86, h87, wh89, h90]
                  exact ⟨_, rfl⟩
                obtain ⟨hh, this⟩ := this
                exact callIso_of rfl this (by first | rfl | simp only [go_sem, seval]) (by first | rfl | simp only [go_sem, seval])
            · have hr : false = r := Option.some.inj h
              subst hr
              have this : ∃ hh, callFn pr (X pr) 11 [sl 1 vint a0, .int .i64 a1, sl 1 vint a2] [] = some (.bool false, false, hh) := by
                rw [callFn_at (show pr.fns 11 = some c11 from rfl) (by simp)]
                simp only [go_sem, seval, c11, wh2, h3, h4, h62, wh64, wh66, wh68, wh70, wh72, wh74, h75, wh77, wh79, wh81, h82, wh84, wh86, h87]
                exact ⟨_, rfl⟩
              obtain ⟨hh, this⟩ := this
              exact callIso_of rfl this (by first | rfl | simp only [go_sem, seval]) (by first | rfl | simp only [go_sem, seval])
          · obtain ⟨v96, h97, h⟩ := obind_some h
            have wh97 : callIso pr (X pr) 39 [sl 1 vint v65.1, sl 1 vint v76.1] = some (.bool v96, false) := WE39 h97
            rcases cond_split h with ⟨h98, h⟩ | ⟨h98, h⟩
            · obtain ⟨v99, h100, h⟩ := obind_some h
              have wh100 : callIso pr (X pr) 40 [.int .i64 v65.2.1, .int .i64 v65.2.2, .int .i64 v73, .int .i64 v76.2] = some (.bool v99, false) := WE40 h100
              rcases cond_split h with ⟨h101, h⟩ | ⟨h101, h⟩
              · obtain ⟨v102, h103, h⟩ := obind_some h
                have wh103 : callIso pr (X pr) 40 [.int .i64 v69.1, .int .i64 v69.2, .int .i64 v80, .int .i64 0] = some (.bool v102, false) := WE40 h103
                rcases cond_split h with ⟨h104, h⟩ | ⟨h104, h⟩
                · obtain ⟨v105, h106, h⟩ := obind_some h
                  have wh106 : callIso pr (X pr) 40 [.int .i64 v71.1, .int .i64 v71.2, .int .i64 v73, .int .i64 v78] = some (.bool v105, false) := WE40 h106
                  have hr : v105 = r := Option.some.inj h
                  subst hr
                  have this : ∃ hh, callFn pr (X pr) 11 [sl 1 vint a0, .int .i64 a1, sl 1 vint a2] [] = some (.bool v105, false, hh) := by
                    rw [callFn_at (show pr.fns 11 = some c11 from rfl) (by simp)]
                    simp only [go_sem, seval, c11, wh2, h3, h4, h62, wh64, wh66, wh68, wh70, wh72, wh74, h75, wh77, wh79, wh81, h82, wh97, h98, wh100, h101, wh103, h104, wh106]
                    exact ⟨_, rfl⟩
                  obtain ⟨hh, this⟩ := this
                  exact callIso_of rfl this (by first | rfl | simp only [go_sem, seval]) (by first | rfl | simp only [go_sem, seval])
                · have hr : false = r := Option.some.inj h
                  subst hr
                  have this : ∃ hh, callFn pr (X pr) 11 [sl 1 vint a0, .int .i64 a1, sl 1 vint a2] [] = some (.bool false, false, hh) := by
                    rw [callFn_at (show pr.fns 11 = some c11 from rfl) (by simp)]
                    simp only [go_sem, seval, c11, wh2, h3, h4, h62, wh64, wh66, wh68, wh70, wh72, wh74, h75, wh77, wh79, wh81, h82, wh97, h98, wh100, h101, wh103, h104]
                    exact ⟨_, rfl⟩
                  obtain ⟨hh, this⟩ := this
                  exact callIso_of rfl this (by first | rfl | simp only [go_sem, seval]) (by first | rfl | simp only [go_sem, seval])
              · have hr : false = r := Option.some.inj h
                subst hr
                have this : ∃ hh, callFn pr (X pr) 11 [sl 1 vint a0, .int .i64 a1, sl 1 vint a2] [] = some (.bool false, false, hh) := by
                  rw [callFn_at (show pr.fns 11 = some c11 from rfl) (by simp)]
                  simp only [go_sem, seval, c11, wh2, h3, h4, h62, wh64, wh66, wh68, wh70, wh72, wh74, h75, wh77, wh79, wh81, h82, wh97, h98, wh100, h101]
                  exact ⟨_, rfl⟩
                obtain ⟨hh, this⟩ := this
                exact callIso_of rfl this (by first | rfl | simp only [go_sem, seval]) (by first | rfl | simp only [go_sem, seval])
            · have hr : false = r := Option.some.inj h
              subst hr
              have this : ∃ hh, callFn pr (X pr) 11 [sl 1 vint a0, .int .i64 a1, sl 1 vint a2] [] = some (.bool false, false, hh) := by
                rw [callFn_at (show pr.fns 11 = some c11 from rfl) (by simp)]
                simp only [go_sem, seval, c11, wh2, h3, h4, h62, wh64, wh66, wh68, wh70, wh72, wh74, h75, wh77, wh79, wh81, h82, wh97, h98]
                exact ⟨_, rfl⟩
              obtain ⟨hh, this⟩ := this
              exact callIso_of rfl this (by first | rfl | simp only [go_sem, seval]) (by first | rfl | simp only [go_sem, seval])
        · obtain ⟨v107, h108, h⟩ := obind_some h
          have wh108 : callIso pr (X pr) 39 [sl 1 vint v65.1, .list true 0 []] = some (.bool v107, false) := WE39 h108
          rcases cond_split h with ⟨h109, h⟩ | ⟨h109, h⟩
          · obtain ⟨v110, h111, h⟩ := obind_some h
            have wh111 : callIso pr (X pr) 40 [.int .i64 v65.2.1, .int .i64 v65.2.2, .int .i64 v73, .int .i64 0] = some (.bool v110, false) := WE40 h111
            rcases cond_split h with ⟨h112, h⟩ | ⟨h112, h⟩
            · obtain ⟨v113, h114, h⟩ := obind_some h
              have wh114 : callIso pr (X pr) 40 [.int .i64 v69.1, .int .i64 v69.2, .int .i64 v73, .int .i64 0] = some (.bool v113, false) := WE40 h114
              rcases cond_split h with ⟨h115, h⟩ | ⟨h115, h⟩
              · obtain ⟨v116, h117, h⟩ := obind_some h
                have wh117 : callIso pr (X pr) 40 [.int .i64 v71.1, .int .i64 v71.2, .int .i64 v73, .int .i64 0] = some (.bool v116, false) := WE40 h117
                have hr : v116 = r := Option.some.inj h
                subst hr
                have this : ∃ hh, callFn pr (X pr) 11 [sl 1 vint a0, .int .i64 a1, sl 1 vint a2] [] = some (.bool v116, false, hh) := by
                  rw [callFn_at (show pr.fns 11 = some c11 from rfl) (by simp)]
                  simp only [go_sem, seval, c11, wh2, h3, h4, h62, wh64, wh66, wh68, wh70, wh72, wh74, h75, wh108, h109, wh111, h112, wh114, h115, wh117]
                  exact ⟨_, rfl⟩
                obtain ⟨hh, this⟩ := this
                exact callIso_of rfl this (by first | rfl | simp only [go_sem, seval]) (by first | rfl | simp only [go_sem, seval])
              · have hr : false = r := Option.some.inj h
                subst hr
                have this : ∃ hh, callFn pr (X pr) 11 [sl 1 vint a0, .int .i64 a1, sl 1 vint a2] [] = some (.bool false, false, hh) := by
                  rw [callFn_at (show pr.fns 11 = some c11 from rfl) (by simp)]
                  simp only [go_sem, seval, c11, wh2, h3, h4, h62, wh64, wh66, wh68, wh70, wh72, wh74, h75, wh108, h109, wh111, h112, wh114, h115]
                  exact ⟨_, rfl⟩
                obtain ⟨hh, this⟩ := this
                exact callIso_of rfl this (by first | rfl | simp only [go_sem, seval]) (by first | rfl | simp only [go_sem, seval])
            · have hr : false = r := Option.some.inj h
              subst hr
              have this : ∃ hh, callFn pr (X pr) 11 [sl 1 vint a0, .int .i64 a1, sl 1 vint a2] [] = some (.bool false, false, hh) := by
                rw [callFn_at (show pr.fns 11 = some c11 from rfl) (by simp)]
                simp only [go_sem, seval, c11, wh2, h3, h4, h62, wh64, wh66, wh68, wh70, wh72, wh74, h75, wh108, h109, wh111, h112]
                exact ⟨_, rfl⟩
              obtain ⟨hh, this⟩ := this
              exact callIso_of rfl this (by first | rfl | simp only [go_sem, seval]) (by first | rfl | simp only [go_sem, seval])
          · have hr : false = r := Option.some.inj h
            subst hr
            have this : ∃ hh, callFn pr (X pr) 11 [sl 1 vint a0, .int .i64 a1, sl 1 vint a2] [] = some (.bool false, false, hh) := by
              rw [callFn_at (show pr.fns 11 = some c11 from rfl) (by simp)]
              simp only [go_sem, seval, c11, wh2, h3, h4, h62, wh64, wh66, wh68, wh70, wh72, wh74, h75, wh108, h109]
              exact ⟨_, rfl⟩
            obtain ⟨hh, this⟩ := this
            exact callIso_of rfl this (by first | rfl | simp only [go_sem, seval]) (by first | rfl | simp only [go_sem, seval])
  · have hr : v1 = r := Option.some.inj h
    subst hr
    have this : ∃ hh, callFn pr (X pr) 11 [sl 1 vint a0, .int .i64 a1, sl 1 vint a2] [] = some (.bool v1, false, hh) := by
      rw [callFn_at (show pr.fns 11 = some c11 from rfl) (by simp)]
      simp only [go_sem, seval, c11, wh2, h3]
      exact ⟨_, rfl⟩
    obtain ⟨hh, this⟩ := this
    exact callIso_of rfl this (by first | rfl | simp only [go_sem, seval]) (by first | rfl | simp only [go_sem, seval])
end Go.Z
