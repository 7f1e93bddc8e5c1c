/-
  Bounds, sorting, schedules: functions that mirror the runs, and the runs (printed by walk.py).
-/
import Derived.Test.YtbkpojiedkhfkaaGreatB2
set_option linter.unusedVariables false
set_option linter.unusedSimpArgs false
set_option maxRecDepth 100000
set_option linter.unusedSimpArgs false
set_option linter.unusedVariables false
set_option maxHeartbeats 4000000
namespace Go.Z
open Go Go.Abs
noncomputable def f128 (a0 : Int) (c0_0 : Int) : Option Bool :=
  cond (decide (a0 < 0))
   (some true)
   (some (decide (c0_0 ≤ a0)))
theorem W128 {a0 : Int} {c0_0 : Int} {r} (h : f128 a0 c0_0 = some r) : callFn pr (X pr) 128 [.int .i64 a0, .ptr 0 0] [.cells [(.int .i64 c0_0, false)]] = some (.bool r, false, [.cells [(.int .i64 c0_0, false)]]) := by
  unfold f128 at h
  rcases cond_split h with ⟨h1, h⟩ | ⟨h1, h⟩
  · have hr : true = r := Option.some.inj h
    subst hr
    rw [callFn_at (show pr.fns 128 = some c128 from rfl) (by simp)]
    simp only [go_sem, seval, c128, h1] <;> rfl
  · have hr : decide (c0_0 ≤ a0) = r := Option.some.inj h
    subst hr
    rw [callFn_at (show pr.fns 128 = some c128 from rfl) (by simp)]
    simp only [go_sem, seval, c128, h1] <;> rfl
noncomputable def s148_0 (a0 : Option (List Int)) (c0_0 : Int) (s0 : Int) : Option (Int ⊕ (Int ⊕ Int)) :=
  cond (decide (s0 < ((a0.getD []).length : Int)))
   (obind (idxO (a0.getD []) s0) fun v14 =>
    obind (f128 v14 c0_0) fun v16 =>
    cond v16
     (some (.inr (.inl s0)))
     (some (.inl (wrapF .i64 (s0 + 1)))))
   (some (.inr (.inr s0)))
def St148_0 (a0 : Option (List Int)) (c0_0 : Int) (s0 : Int) : ASt := ⟨[(0, sl 1 vint a0, false), (1, .fn (.func 128) [] [.ptr 0 0], false), (7, .int .i64 ((a0.getD []).length : Int), false), (8, .int .i64 s0, false)], [.cells [(.int .i64 c0_0, false)]]⟩
def Ex148_0 (a0 : Option (List Int)) (c0_0 : Int) : Int ⊕ Int → AExit × ASt
  | .inl d => (.ret, ⟨[(4, .int .i64 d, false)], [.cells [(.int .i64 c0_0, false)]]⟩)
  | .inr d => (.exit 0, ⟨[(0, sl 1 vint a0, false), (1, .fn (.func 128) [] [.ptr 0 0], false), (7, .int .i64 ((a0.getD []).length : Int), false), (8, .int .i64 d, false), (9, .bool false, false)], [.cells [(.int .i64 c0_0, false)]]⟩)
theorem b148_0 (a0 : Option (List Int)) (c0_0 : Int) (s0 : Int) (r) (h : s148_0 a0 c0_0 s0 = some r) : stepO pr c148_0 (St148_0 a0 c0_0) (Ex148_0 a0 c0_0) s0 r := by
  unfold s148_0 at h
  rcases cond_split h with ⟨h13, h⟩ | ⟨h13, h⟩
  · obtain ⟨v14, h15, h⟩ := obind_some h
    obtain ⟨v16, h17, h⟩ := obind_some h
    have wh17 : callFn pr (X pr) 128 [.int .i64 v14, .ptr 0 0] [.cells [(.int .i64 c0_0, false)]] = some (.bool v16, false, [.cells [(.int .i64 c0_0, false)]]) := W128 h17
    rcases cond_split h with ⟨h18, h⟩ | ⟨h18, h⟩
    · cases h
      exact stepO_out (by simp only [go_sem, seval, c148_0, St148_0, h13, idxR_O h15, wh17, h18, Ex148_0] <;> rfl)
    · cases h
      exact stepO_in (st' := ⟨[(0, sl 1 vint a0, false), (1, .fn (.func 128) [] [.ptr 0 0], false), (7, .int .i64 ((a0.getD []).length : Int), false), (8, .int .i64 (wrapF .i64 (s0 + 1)), false)], [.cells [(.int .i64 c0_0, false)]]⟩) (by simp only [go_sem, seval, c148_0, St148_0, h13, idxR_O h15, wh17, h18] <;> rfl) (gc_same (Nat.le_refl _))
  · cases h
    exact stepO_out (by simp only [go_sem, seval, c148_0, St148_0, h13, Ex148_0] <;> rfl)
theorem l148_0 (a0 : Option (List Int)) (c0_0 : Int) {s0 : Int} {d} (h : itO (s148_0 a0 c0_0) s0 = some d) : X pr (.loop c148_0) (St148_0 a0 c0_0 s0) = some (Ex148_0 a0 c0_0 d) := X_itO (b148_0 a0 c0_0) (fun d => by rcases d with d|d <;> (intro hh; cases hh)) h
noncomputable def f148 (a0 : Option (List Int)) (c0_0 : Int) : Option Int :=
  obind (itO (s148_0 a0 c0_0) 0) fun d19 => match d19 with
    | .inl d21 =>
      some d21
    | .inr d22 =>
      some (-1)
theorem W148 {a0 : Option (List Int)} {c0_0 : Int} {r} (h : f148 a0 c0_0 = some r) : callFn pr (X pr) 148 [sl 1 vint a0, .fn (.func 128) [] [.ptr 0 0]] [.cells [(.int .i64 c0_0, false)]] = some (.int .i64 r, false, [.cells [(.int .i64 c0_0, false)]]) := by
  unfold f148 at h
  obtain ⟨d19, h20, h⟩ := obind_some h
  rcases d19 with d21 | d22
  · have wh20 : X pr (.loop c148_0) ⟨[(0, sl 1 vint a0, false), (1, .fn (.func 128) [] [.ptr 0 0], false), (7, .int .i64 ((a0.getD []).length : Int), false), (8, .int .i64 0, false)], [.cells [(.int .i64 c0_0, false)]]⟩ = some (.ret, ⟨[(4, .int .i64 d21, false)], [.cells [(.int .i64 c0_0, false)]]⟩) := l148_0 a0 c0_0 h20
    have hr : d21 = r := Option.some.inj h
    subst hr
    rw [callFn_at (show pr.fns 148 = some c148 from rfl) (by simp)]
    simp only [go_sem, seval, c148, wh20] <;> rfl
  · have wh20 : X pr (.loop c148_0) ⟨[(0, sl 1 vint a0, false), (1, .fn (.func 128) [] [.ptr 0 0], false), (7, .int .i64 ((a0.getD []).length : Int), false), (8, .int .i64 0, false)], [.cells [(.int .i64 c0_0, false)]]⟩ = some (.exit 0, ⟨[(0, sl 1 vint a0, false), (1, .fn (.func 128) [] [.ptr 0 0], false), (7, .int .i64 ((a0.getD []).length : Int), false), (8, .int .i64 d22, false), (9, .bool false, false)], [.cells [(.int .i64 c0_0, false)]]⟩) := l148_0 a0 c0_0 h20
    have hr : (-1) = r := Option.some.inj h
    subst hr
    rw [callFn_at (show pr.fns 148 = some c148 from rfl) (by simp)]
    simp only [go_sem, seval, c148, wh20] <;> rfl
noncomputable def f127 (a0 : Option (List Int)) (c0_0 : Int) : Option Bool :=
  obind (f148 a0 c0_0) fun v1 =>
  some (decide (0 ≤ v1))
theorem W127 {a0 : Option (List Int)} {c0_0 : Int} {r} (h : f127 a0 c0_0 = some r) : callFn pr (X pr) 127 [sl 1 vint a0, .fn (.func 128) [] [.ptr 0 0]] [.cells [(.int .i64 c0_0, false)]] = some (.bool r, false, [.cells [(.int .i64 c0_0, false)]]) := by
  unfold f127 at h
  obtain ⟨v1, h2, h⟩ := obind_some h
  have wh2 : callFn pr (X pr) 148 [sl 1 vint a0, .fn (.func 128) [] [.ptr 0 0]] [.cells [(.int .i64 c0_0, false)]] = some (.int .i64 v1, false, [.cells [(.int .i64 c0_0, false)]]) := W148 h2
  have hr : decide (0 ≤ v1) = r := Option.some.inj h
  subst hr
  rw [callFn_at (show pr.fns 127 = some c127 from rfl) (by simp)]
  simp only [go_sem, seval, c127, wh2] <;> rfl
noncomputable def f75 (a0 : Option (List Int)) (a1 : Int) (a2 : Option (List Int)) : Option (Int × Int) :=
  obind (f125 a0 a1) fun v1 =>
  obind (E24 (!decide (((a2.getD []).length : Int) = ((a0.getD []).length : Int))) 2) fun v3 =>
  obind (f87 (some [v1, v3])) fun v5 =>
  cond (decide (v5 = 0))
   (obind (f127 a2 a1) fun v8 =>
    cond v8
     (some (0, 10))
     (obind (f129 a0 a2) fun v11 =>
      some (v11, 0)))
   (some (0, v5))
theorem W75 {a0 : Option (List Int)} {a1 : Int} {a2 : Option (List Int)} {r} (h : f75 a0 a1 a2 = some r) : callIso pr (X pr) 75 [sl 1 vint a0, .int .i64 a1, sl 1 vint a2] = some (.tup [.int .i64 r.1, .int .i64 r.2], false) := by
  unfold f75 at h
  obtain ⟨v1, h2, h⟩ := obind_some h
  have wh2 : callIso pr (X pr) 125 [sl 1 vint a0, .int .i64 a1] = some (.int .i64 v1, false) := W125 h2
  obtain ⟨v3, h4, h⟩ := obind_some h
  have wh4 : callIso pr (X pr) 89 [.bool (!decide (((a2.getD []).length : Int) = ((a0.getD []).length : Int))), .int .i64 2] = some (.int .i64 v3, false) := WE89 h4
  obtain ⟨v5, h6, h⟩ := obind_some h
  have wh6 : callIso pr (X pr) 87 [.list false 1 [.int .i64 v1, .int .i64 v3]] = some (.int .i64 v5, false) := W87 h6
  rcases cond_split h with ⟨h7, h⟩ | ⟨h7, h⟩
  · obtain ⟨v8, h9, h⟩ := obind_some h
    have wh9 : callFn pr (X pr) 127 [sl 1 vint a2, .fn (.func 128) [] [.ptr 0 0]] [.cells [(.int .i64 a1, false)]] = some (.bool v8, false, [.cells [(.int .i64 a1, false)]]) := W127 h9
    rcases cond_split h with ⟨h10, h⟩ | ⟨h10, h⟩
    · have hr : (0, 10) = r := Option.some.inj h
      subst hr
      have this : ∃ hh, callFn pr (X pr) 75 [sl 1 vint a0, .int .i64 a1, sl 1 vint a2] [] = some (.tup [.int .i64 0, .int .i64 10], false, hh) := by
        rw [callFn_at (show pr.fns 75 = some c75 from rfl) (by simp)]
        simp only [go_sem, seval, c75, wh2, wh4, wh6, h7, wh9, h10]
        exact ⟨_, rfl⟩
      obtain ⟨hh, this⟩ := this
      exact callIso_of rfl this (by first | rfl | simp only [go_sem, seval]) (by first | rfl | simp only [go_sem, seval])
    · obtain ⟨v11, h12, h⟩ := obind_some h
      have wh12 : callIso pr (X pr) 129 [sl 1 vint a0, sl 1 vint a2] = some (.int .i64 v11, false) := W129 h12
      have hr : (v11, 0) = r := Option.some.inj h
      subst hr
      have this : ∃ hh, callFn pr (X pr) 75 [sl 1 vint a0, .int .i64 a1, sl 1 vint a2] [] = some (.tup [.int .i64 v11, .int .i64 0], false, hh) := by
        rw [callFn_at (show pr.fns 75 = some c75 from rfl) (by simp)]
        simp only [go_sem, seval, c75, wh2, wh4, wh6, h7, wh9, h10, wh12]
        exact ⟨_, rfl⟩
      obtain ⟨hh, this⟩ := this
      exact callIso_of rfl this (by first | rfl | simp only [go_sem, seval]) (by first | rfl | simp only [go_sem, seval])
  · have hr : (0, v5) = r := Option.some.inj h
    subst hr
    have this : ∃ hh, callFn pr (X pr) 75 [sl 1 vint a0, .int .i64 a1, sl 1 vint a2] [] = some (.tup [.int .i64 0, .int .i64 v5], false, hh) := by
      rw [callFn_at (show pr.fns 75 = some c75 from rfl) (by simp)]
      simp only [go_sem, seval, c75, wh2, wh4, wh6, h7]
      exact ⟨_, rfl⟩
    obtain ⟨hh, this⟩ := this
    exact callIso_of rfl this (by first | rfl | simp only [go_sem, seval]) (by first | rfl | simp only [go_sem, seval])
noncomputable def f74 (a0 : Option (List Int)) (a1 : Int) : Option ((Option (List Int)) × Int × Int) :=
  obind (f125 a0 a1) fun v1 =>
  cond (decide (v1 = 0))
   (obind (f126 10 none a0 a1 none false 0) fun v4 =>
    some (v4.1, v4.2.1, 0))
   (some (none, 0, v1))
theorem W74 {a0 : Option (List Int)} {a1 : Int} {r} (h : f74 a0 a1 = some r) : callIso pr (X pr) 74 [sl 1 vint a0, .int .i64 a1] = some (.tup [sl 1 vint r.1, .int .i64 r.2.1, .int .i64 r.2.2], false) := by
  unfold f74 at h
  obtain ⟨v1, h2, h⟩ := obind_some h
  have wh2 : callIso pr (X pr) 125 [sl 1 vint a0, .int .i64 a1] = some (.int .i64 v1, false) := W125 h2
  rcases cond_split h with ⟨h3, h⟩ | ⟨h3, h⟩
  · obtain ⟨v4, h5, h⟩ := obind_some h
    have wh5 : callFn pr (X pr) 126 [.ptr 0 0, .list true 0 []] [.cells [(sl 1 vint a0, false), (.int .i64 a1, false), (.list true 0 [], false), (.int .i64 0, false)]] = some (.tup [], false, [.cells [(sl 1 vint a0, false), (.int .i64 a1, false), (sl 1 vint v4.1, v4.2.2), (.int .i64 v4.2.1, false)]]) := W126 10 h5
    have hr : (v4.1, v4.2.1, 0) = r := Option.some.inj h
    subst hr
    have this : ∃ hh, callFn pr (X pr) 74 [sl 1 vint a0, .int .i64 a1] [] = some (.tup [sl 1 vint v4.1, .int .i64 v4.2.1, .int .i64 0], false, hh) := by
      rw [callFn_at (show pr.fns 74 = some c74 from rfl) (by simp)]
      simp only [go_sem, seval, c74, wh2, h3, wh5]
      exact ⟨_, rfl⟩
    obtain ⟨hh, this⟩ := this
    exact callIso_of rfl this (by first | rfl | simp only [go_sem, seval]) (by first | rfl | simp only [go_sem, seval])
  · have hr : (none, 0, v1) = r := Option.some.inj h
    subst hr
    have this : ∃ hh, callFn pr (X pr) 74 [sl 1 vint a0, .int .i64 a1] [] = some (.tup [.list true 0 [], .int .i64 0, .int .i64 v1], false, hh) := by
      rw [callFn_at (show pr.fns 74 = some c74 from rfl) (by simp)]
      simp only [go_sem, seval, c74, wh2, h3]
      exact ⟨_, rfl⟩
    obtain ⟨hh, this⟩ := this
    exact callIso_of rfl this (by first | rfl | simp only [go_sem, seval]) (by first | rfl | simp only [go_sem, seval])
noncomputable def f162 (a0 : Int) : Option Int :=
  cond (decide (4294967296 ≤ a0))
   (obind (shrO .u64 a0 32) fun v2 =>
    cond (decide (65536 ≤ v2))
     (obind (shrO .u64 v2 16) fun v5 =>
      cond (decide (256 ≤ v5))
       (obind (shrO .u64 v5 8) fun v8 =>
        obind (idxO ([0, 1, 2, 2, 3, 3, 3, 3, 4, 4, 4, 4, 4, 4, 4, 4, 5, 5, 5, 5, 5, 5, 5, 5, 5, 5, 5, 5, 5, 5, 5, 5, 6, 6, 6, 6, 6, 6, 6, 6, 6, 6, 6, 6, 6, 6, 6, 6, 6, 6, 6, 6, 6, 6, 6, 6, 6, 6, 6, 6, 6, 6, 6, 6, 7, 7, 7, 7, 7, 7, 7, 7, 7, 7, 7, 7, 7, 7, 7, 7, 7, 7, 7, 7, 7, 7, 7, 7, 7, 7, 7, 7, 7, 7, 7, 7, 7, 7, 7, 7, 7, 7, 7, 7, 7, 7, 7, 7, 7, 7, 7, 7, 7, 7, 7, 7, 7, 7, 7, 7, 7, 7, 7, 7, 7, 7, 7, 7, 8, 8, 8, 8, 8, 8, 8, 8, 8, 8, 8, 8, 8, 8, 8, 8, 8, 8, 8, 8, 8, 8, 8, 8, 8, 8, 8, 8, 8, 8, 8, 8, 8, 8, 8, 8, 8, 8, 8, 8, 8, 8, 8, 8, 8, 8, 8, 8, 8, 8, 8, 8, 8, 8, 8, 8, 8, 8, 8, 8, 8, 8, 8, 8, 8, 8, 8, 8, 8, 8, 8, 8, 8, 8, 8, 8, 8, 8, 8, 8, 8, 8, 8, 8, 8, 8, 8, 8, 8, 8, 8, 8, 8, 8, 8, 8, 8, 8, 8, 8, 8, 8, 8, 8, 8, 8, 8, 8, 8, 8, 8, 8, 8, 8, 8, 8, 8, 8, 8, 8, 8, 8, 8, 8, 8, 8, 8, 8] : List UInt8) (wrapF .u8 v8)) fun v10 =>
        some (wrapF .i64 ((wrapF .i64 ((wrapF .i64 (32 + 16)) + 8)) + (wrapF .i64 (v10.toNat : Int)))))
       (obind (idxO ([0, 1, 2, 2, 3, 3, 3, 3, 4, 4, 4, 4, 4, 4, 4, 4, 5, 5, 5, 5, 5, 5, 5, 5, 5, 5, 5, 5, 5, 5, 5, 5, 6, 6, 6, 6, 6, 6, 6, 6, 6, 6, 6, 6, 6, 6, 6, 6, 6, 6, 6, 6, 6, 6, 6, 6, 6, 6, 6, 6, 6, 6, 6, 6, 7, 7, 7, 7, 7, 7, 7, 7, 7, 7, 7, 7, 7, 7, 7, 7, 7, 7, 7, 7, 7, 7, 7, 7, 7, 7, 7, 7, 7, 7, 7, 7, 7, 7, 7, 7, 7, 7, 7, 7, 7, 7, 7, 7, 7, 7, 7, 7, 7, 7, 7, 7, 7, 7, 7, 7, 7, 7, 7, 7, 7, 7, 7, 7, 8, 8, 8, 8, 8, 8, 8, 8, 8, 8, 8, 8, 8, 8, 8, 8, 8, 8, 8, 8, 8, 8, 8, 8, 8, 8, 8, 8, 8, 8, 8, 8, 8, 8, 8, 8, 8, 8, 8, 8, 8, 8, 8, 8, 8, 8, 8, 8, 8, 8, 8, 8, 8, 8, 8, 8, 8, 8, 8, 8, 8, 8, 8, 8, 8, 8, 8, 8, 8, 8, 8, 8, 8, 8, 8, 8, 8, 8, 8, 8, 8, 8, 8, 8, 8, 8, 8, 8, 8, 8, 8, 8, 8, 8, 8, 8, 8, 8, 8, 8, 8, 8, 8, 8, 8, 8, 8, 8, 8, 8, 8, 8, 8, 8, 8, 8, 8, 8, 8, 8, 8, 8, 8, 8, 8, 8, 8, 8] : List UInt8) (wrapF .u8 v5)) fun v12 =>
        some (wrapF .i64 ((wrapF .i64 (32 + 16)) + (wrapF .i64 (v12.toNat : Int))))))
     (cond (decide (256 ≤ v2))
       (obind (shrO .u64 v2 8) fun v15 =>
        obind (idxO ([0, 1, 2, 2, 3, 3, 3, 3, 4, 4, 4, 4, 4, 4, 4, 4, 5, 5, 5, 5, 5, 5, 5, 5, 5, 5, 5, 5, 5, 5, 5, 5, 6, 6, 6, 6, 6, 6, 6, 6, 6, 6, 6, 6, 6, 6, 6, 6, 6, 6, 6, 6, 6, 6, 6, 6, 6, 6, 6, 6, 6, 6, 6, 6, 7, 7, 7, 7, 7, 7, 7, 7, 7, 7, 7, 7, 7, 7, 7, 7, 7, 7, 7, 7, 7, 7, 7, 7, 7, 7, 7, 7, 7, 7, 7, 7, 7, 7, 7, 7, 7, 7, 7, 7, 7, 7, 7, 7, 7, 7, 7, 7, 7, 7, 7, 7, 7, 7, 7, 7, 7, 7, 7, 7, 7, 7, 7, 7, 8, 8, 8, 8, 8, 8, 8, 8, 8, 8, 8, 8, 8, 8, 8, 8, 8, 8, 8, 8, 8, 8, 8, 8, 8, 8, 8, 8, 8, 8, 8, 8, 8, 8, 8, 8, 8, 8, 8, 8, 8, 8, 8, 8, 8, 8, 8, 8, 8, 8, 8, 8, 8, 8, 8, 8, 8, 8, 8, 8, 8, 8, 8, 8, 8, 8, 8, 8, 8, 8, 8, 8, 8, 8, 8, 8, 8, 8, 8, 8, 8, 8, 8, 8, 8, 8, 8, 8, 8, 8, 8, 8, 8, 8, 8, 8, 8, 8, 8, 8, 8, 8, 8, 8, 8, 8, 8, 8, 8, 8, 8, 8, 8, 8, 8, 8, 8, 8, 8, 8, 8, 8, 8, 8, 8, 8, 8, 8] : List UInt8) (wrapF .u8 v15)) fun v17 =>
        some (wrapF .i64 ((wrapF .i64 (32 + 8)) + (wrapF .i64 (v17.toNat : Int)))))
       (obind (idxO ([0, 1, 2, 2, 3, 3, 3, 3, 4, 4, 4, 4, 4, 4, 4, 4, 5, 5, 5, 5, 5, 5, 5, 5, 5, 5, 5, 5, 5, 5, 5, 5, 6, 6, 6, 6, 6, 6, 6, 6, 6, 6, 6, 6, 6, 6, 6, 6, 6, 6, 6, 6, 6, 6, 6, 6, 6, 6, 6, 6, 6, 6, 6, 6, 7, 7, 7, 7, 7, 7, 7, 7, 7, 7, 7, 7, 7, 7, 7, 7, 7, 7, 7, 7, 7, 7, 7, 7, 7, 7, 7, 7, 7, 7, 7, 7, 7, 7, 7, 7, 7, 7, 7, 7, 7, 7, 7, 7, 7, 7, 7, 7, 7, 7, 7, 7, 7, 7, 7, 7, 7, 7, 7, 7, 7, 7, 7, 7, 8, 8, 8, 8, 8, 8, 8, 8, 8, 8, 8, 8, 8, 8, 8, 8, 8, 8, 8, 8, 8, 8, 8, 8, 8, 8, 8, 8, 8, 8, 8, 8, 8, 8, 8, 8, 8, 8, 8, 8, 8, 8, 8, 8, 8, 8, 8, 8, 8, 8, 8, 8, 8, 8, 8, 8, 8, 8, 8, 8, 8, 8, 8, 8, 8, 8, 8, 8, 8, 8, 8, 8, 8, 8, 8, 8, 8, 8, 8, 8, 8, 8, 8, 8, 8, 8, 8, 8, 8, 8, 8, 8, 8, 8, 8, 8, 8, 8, 8, 8, 8, 8, 8, 8, 8, 8, 8, 8, 8, 8, 8, 8, 8, 8, 8, 8, 8, 8, 8, 8, 8, 8, 8, 8, 8, 8, 8, 8] : List UInt8) (wrapF .u8 v2)) fun v19 =>
        some (wrapF .i64 (32 + (wrapF .i64 (v19.toNat : Int)))))))
   (cond (decide (65536 ≤ a0))
     (obind (shrO .u64 a0 16) fun v22 =>
      cond (decide (256 ≤ v22))
       (obind (shrO .u64 v22 8) fun v25 =>
        obind (idxO ([0, 1, 2, 2, 3, 3, 3, 3, 4, 4, 4, 4, 4, 4, 4, 4, 5, 5, 5, 5, 5, 5, 5, 5, 5, 5, 5, 5, 5, 5, 5, 5, 6, 6, 6, 6, 6, 6, 6, 6, 6, 6, 6, 6, 6, 6, 6, 6, 6, 6, 6, 6, 6, 6, 6, 6, 6, 6, 6, 6, 6, 6, 6, 6, 7, 7, 7, 7, 7, 7, 7, 7, 7, 7, 7, 7, 7, 7, 7, 7, 7, 7, 7, 7, 7, 7, 7, 7, 7, 7, 7, 7, 7, 7, 7, 7, 7, 7, 7, 7, 7, 7, 7, 7, 7, 7, 7, 7, 7, 7, 7, 7, 7, 7, 7, 7, 7, 7, 7, 7, 7, 7, 7, 7, 7, 7, 7, 7, 8, 8, 8, 8, 8, 8, 8, 8, 8, 8, 8, 8, 8, 8, 8, 8, 8, 8, 8, 8, 8, 8, 8, 8, 8, 8, 8, 8, 8, 8, 8, 8, 8, 8, 8, 8, 8, 8, 8, 8, 8, 8, 8, 8, 8, 8, 8, 8, 8, 8, 8, 8, 8, 8, 8, 8, 8, 8, 8, 8, 8, 8, 8, 8, 8, 8, 8, 8, 8, 8, 8, 8, 8, 8, 8, 8, 8, 8, 8, 8, 8, 8, 8, 8, 8, 8, 8, 8, 8, 8, 8, 8, 8, 8, 8, 8, 8, 8, 8, 8, 8, 8, 8, 8, 8, 8, 8, 8, 8, 8, 8, 8, 8, 8, 8, 8, 8, 8, 8, 8, 8, 8, 8, 8, 8, 8, 8, 8] : List UInt8) (wrapF .u8 v25)) fun v27 =>
        some (wrapF .i64 ((wrapF .i64 ((wrapF .i64 (0 + 16)) + 8)) + (wrapF .i64 (v27.toNat : Int)))))
       (obind (idxO ([0, 1, 2, 2, 3, 3, 3, 3, 4, 4, 4, 4, 4, 4, 4, 4, 5, 5, 5, 5, 5, 5, 5, 5, 5, 5, 5, 5, 5, 5, 5, 5, 6, 6, 6, 6, 6, 6, 6, 6, 6, 6, 6, 6, 6, 6, 6, 6, 6, 6, 6, 6, 6, 6, 6, 6, 6, 6, 6, 6, 6, 6, 6, 6, 7, 7, 7, 7, 7, 7, 7, 7, 7, 7, 7, 7, 7, 7, 7, 7, 7, 7, 7, 7, 7, 7, 7, 7, 7, 7, 7, 7, 7, 7, 7, 7, 7, 7, 7, 7, 7, 7, 7, 7, 7, 7, 7, 7, 7, 7, 7, 7, 7, 7, 7, 7, 7, 7, 7, 7, 7, 7, 7, 7, 7, 7, 7, 7, 8, 8, 8, 8, 8, 8, 8, 8, 8, 8, 8, 8, 8, 8, 8, 8, 8, 8, 8, 8, 8, 8, 8, 8, 8, 8, 8, 8, 8, 8, 8, 8, 8, 8, 8, 8, 8, 8, 8, 8, 8, 8, 8, 8, 8, 8, 8, 8, 8, 8, 8, 8, 8, 8, 8, 8, 8, 8, 8, 8, 8, 8, 8, 8, 8, 8, 8, 8, 8, 8, 8, 8, 8, 8, 8, 8, 8, 8, 8, 8, 8, 8, 8, 8, 8, 8, 8, 8, 8, 8, 8, 8, 8, 8, 8, 8, 8, 8, 8, 8, 8, 8, 8, 8, 8, 8, 8, 8, 8, 8, 8, 8, 8, 8, 8, 8, 8, 8, 8, 8, 8, 8, 8, 8, 8, 8, 8, 8] : List UInt8) (wrapF .u8 v22)) fun v29 =>
        some (wrapF .i64 ((wrapF .i64 (0 + 16)) + (wrapF .i64 (v29.toNat : Int))))))
     (cond (decide (256 ≤ a0))
       (obind (shrO .u64 a0 8) fun v32 =>
        obind (idxO ([0, 1, 2, 2, 3, 3, 3, 3, 4, 4, 4, 4, 4, 4, 4, 4, 5, 5, 5, 5, 5, 5, 5, 5, 5, 5, 5, 5, 5, 5, 5, 5, 6, 6, 6, 6, 6, 6, 6, 6, 6, 6, 6, 6, 6, 6, 6, 6, 6, 6, 6, 6, 6, 6, 6, 6, 6, 6, 6, 6, 6, 6, 6, 6, 7, 7, 7, 7, 7, 7, 7, 7, 7, 7, 7, 7, 7, 7, 7, 7, 7, 7, 7, 7, 7, 7, 7, 7, 7, 7, 7, 7, 7, 7, 7, 7, 7, 7, 7, 7, 7, 7, 7, 7, 7, 7, 7, 7, 7, 7, 7, 7, 7, 7, 7, 7, 7, 7, 7, 7, 7, 7, 7, 7, 7, 7, 7, 7, 8, 8, 8, 8, 8, 8, 8, 8, 8, 8, 8, 8, 8, 8, 8, 8, 8, 8, 8, 8, 8, 8, 8, 8, 8, 8, 8, 8, 8, 8, 8, 8, 8, 8, 8, 8, 8, 8, 8, 8, 8, 8, 8, 8, 8, 8, 8, 8, 8, 8, 8, 8, 8, 8, 8, 8, 8, 8, 8, 8, 8, 8, 8, 8, 8, 8, 8, 8, 8, 8, 8, 8, 8, 8, 8, 8, 8, 8, 8, 8, 8, 8, 8, 8, 8, 8, 8, 8, 8, 8, 8, 8, 8, 8, 8, 8, 8, 8, 8, 8, 8, 8, 8, 8, 8, 8, 8, 8, 8, 8, 8, 8, 8, 8, 8, 8, 8, 8, 8, 8, 8, 8, 8, 8, 8, 8, 8, 8] : List UInt8) (wrapF .u8 v32)) fun v34 =>
        some (wrapF .i64 ((wrapF .i64 (0 + 8)) + (wrapF .i64 (v34.toNat : Int)))))
       (obind (idxO ([0, 1, 2, 2, 3, 3, 3, 3, 4, 4, 4, 4, 4, 4, 4, 4, 5, 5, 5, 5, 5, 5, 5, 5, 5, 5, 5, 5, 5, 5, 5, 5, 6, 6, 6, 6, 6, 6, 6, 6, 6, 6, 6, 6, 6, 6, 6, 6, 6, 6, 6, 6, 6, 6, 6, 6, 6, 6, 6, 6, 6, 6, 6, 6, 7, 7, 7, 7, 7, 7, 7, 7, 7, 7, 7, 7, 7, 7, 7, 7, 7, 7, 7, 7, 7, 7, 7, 7, 7, 7, 7, 7, 7, 7, 7, 7, 7, 7, 7, 7, 7, 7, 7, 7, 7, 7, 7, 7, 7, 7, 7, 7, 7, 7, 7, 7, 7, 7, 7, 7, 7, 7, 7, 7, 7, 7, 7, 7, 8, 8, 8, 8, 8, 8, 8, 8, 8, 8, 8, 8, 8, 8, 8, 8, 8, 8, 8, 8, 8, 8, 8, 8, 8, 8, 8, 8, 8, 8, 8, 8, 8, 8, 8, 8, 8, 8, 8, 8, 8, 8, 8, 8, 8, 8, 8, 8, 8, 8, 8, 8, 8, 8, 8, 8, 8, 8, 8, 8, 8, 8, 8, 8, 8, 8, 8, 8, 8, 8, 8, 8, 8, 8, 8, 8, 8, 8, 8, 8, 8, 8, 8, 8, 8, 8, 8, 8, 8, 8, 8, 8, 8, 8, 8, 8, 8, 8, 8, 8, 8, 8, 8, 8, 8, 8, 8, 8, 8, 8, 8, 8, 8, 8, 8, 8, 8, 8, 8, 8, 8, 8, 8, 8, 8, 8, 8, 8] : List UInt8) (wrapF .u8 a0)) fun v36 =>
        some (wrapF .i64 (0 + (wrapF .i64 (v36.toNat : Int)))))))
theorem W162 {a0 : Int} {r} (h : f162 a0 = some r) : callIso pr (X pr) 162 [.int .u64 a0] = some (.int .i64 r, false) := by
  unfold f162 at h
  rcases cond_split h with ⟨h1, h⟩ | ⟨h1, h⟩
  · obtain ⟨v2, h3, h⟩ := obind_some h
    rcases cond_split h with ⟨h4, h⟩ | ⟨h4, h⟩
    · obtain ⟨v5, h6, h⟩ := obind_some h
      rcases cond_split h with ⟨h7, h⟩ | ⟨h7, h⟩
      · obtain ⟨v8, h9, h⟩ := obind_some h
        obtain ⟨v10, h11, h⟩ := obind_some h
        have hr : wrapF .i64 ((wrapF .i64 ((wrapF .i64 (32 + 16)) + 8)) + (wrapF .i64 (v10.toNat : Int))) = r := Option.some.inj h
        subst hr
        have this : ∃ hh, callFn pr (X pr) 162 [.int .u64 a0] [] = some (.int .i64 (wrapF .i64 ((wrapF .i64 ((wrapF .i64 (32 + 16)) + 8)) + (wrapF .i64 (v10.toNat : Int)))), false, hh) := by
          rw [callFn_at (show pr.fns 162 = some c162 from rfl) (by simp)]
          simp only [go_sem, seval, c162, h1, b_shr_O h3, h4, b_shr_O h6, h7, b_shr_O h9, strIdx_O h11]
          exact ⟨_, rfl⟩
        obtain ⟨hh, this⟩ := this
        exact callIso_of rfl this (by first | rfl | simp only [go_sem, seval]) (by first | rfl | simp only [go_sem, seval])
      · obtain ⟨v12, h13, h⟩ := obind_some h
        have hr : wrapF .i64 ((wrapF .i64 (32 + 16)) + (wrapF .i64 (v12.toNat : Int))) = r := Option.some.inj h
        subst hr
        have this : ∃ hh, callFn pr (X pr) 162 [.int .u64 a0] [] = some (.int .i64 (wrapF .i64 ((wrapF .i64 (32 + 16)) + (wrapF .i64 (v12.toNat : Int)))), false, hh) := by
          rw [callFn_at (show pr.fns 162 = some c162 from rfl) (by simp)]
          simp only [go_sem, seval, c162, h1, b_shr_O h3, h4, b_shr_O h6, h7, strIdx_O h13]
          exact ⟨_, rfl⟩
        obtain ⟨hh, this⟩ := this
        exact callIso_of rfl this (by first | rfl | simp only [go_sem, seval]) (by first | rfl | simp only [go_sem, seval])
    · rcases cond_split h with ⟨h14, h⟩ | ⟨h14, h⟩
      · obtain ⟨v15, h16, h⟩ := obind_some h
        obtain ⟨v17, h18, h⟩ := obind_some h
        have hr : wrapF .i64 ((wrapF .i64 (32 + 8)) + (wrapF .i64 (v17.toNat : Int))) = r := Option.some.inj h
        subst hr
        have this : ∃ hh, callFn pr (X pr) 162 [.int .u64 a0] [] = some (.int .i64 (wrapF .i64 ((wrapF .i64 (32 + 8)) + (wrapF .i64 (v17.toNat : Int)))), false, hh) := by
          rw [callFn_at (show pr.fns 162 = some c162 from rfl) (by simp)]
          simp only [go_sem, seval, c162, h1, b_shr_O h3, h4, h14, b_shr_O h16, strIdx_O h18]
          exact ⟨_, rfl⟩
        obtain ⟨hh, this⟩ := this
        exact callIso_of rfl this (by first | rfl | simp only [go_sem, seval]) (by first | rfl | simp only [go_sem, seval])
      · obtain ⟨v19, h20, h⟩ := obind_some h
        have hr : wrapF .i64 (32 + (wrapF .i64 (v19.toNat : Int))) = r := Option.some.inj h
        subst hr
        have this : ∃ hh, callFn pr (X pr) 162 [.int .u64 a0] [] = some (.int .i64 (wrapF .i64 (32 + (wrapF .i64 (v19.toNat : Int)))), false, hh) := by
          rw [callFn_at (show pr.fns 162 = some c162 from rfl) (by simp)]
          simp only [go_sem, seval, c162, h1, b_shr_O h3, h4, h14, strIdx_O h20]
          exact ⟨_, rfl⟩
        obtain ⟨hh, this⟩ := this
        exact callIso_of rfl this (by first | rfl | simp only [go_sem, seval]) (by first | rfl | simp only [go_sem, seval])
  · rcases cond_split h with ⟨h21, h⟩ | ⟨h21, h⟩
    · obtain ⟨v22, h23, h⟩ := obind_some h
      rcases cond_split h with ⟨h24, h⟩ | ⟨h24, h⟩
      · obtain ⟨v25, h26, h⟩ := obind_some h
        obtain ⟨v27, h28, h⟩ := obind_some h
        have hr : wrapF .i64 ((wrapF .i64 ((wrapF .i64 (0 + 16)) + 8)) + (wrapF .i64 (v27.toNat : Int))) = r := Option.some.inj h
        subst hr
        have this : ∃ hh, callFn pr (X pr) 162 [.int .u64 a0] [] = some (.int .i64 (wrapF .i64 ((wrapF .i64 ((wrapF .i64 (0 + 16)) + 8)) + (wrapF .i64 (v27.toNat : Int)))), false, hh) := by
          rw [callFn_at (show pr.fns 162 = some c162 from rfl) (by simp)]
          simp only [go_sem, seval, c162, h1, h21, b_shr_O h23, h24, b_shr_O h26, strIdx_O h28]
          exact ⟨_, rfl⟩
        obtain ⟨hh, this⟩ := this
        exact callIso_of rfl this (by first | rfl | simp only [go_sem, seval]) (by first | rfl | simp only [go_sem, seval])
      · obtain ⟨v29, h30, h⟩ := obind_some h
        have hr : wrapF .i64 ((wrapF .i64 (0 + 16)) + (wrapF .i64 (v29.toNat : Int))) = r := Option.some.inj h
        subst hr
        have this : ∃ hh, callFn pr (X pr) 162 [.int .u64 a0] [] = some (.int .i64 (wrapF .i64 ((wrapF .i64 (0 + 16)) + (wrapF .i64 (v29.toNat : Int)))), false, hh) := by
          rw [callFn_at (show pr.fns 162 = some c162 from rfl) (by simp)]
          simp only [go_sem, seval, c162, h1, h21, b_shr_O h23, h24, strIdx_O h30]
          exact ⟨_, rfl⟩
        obtain ⟨hh, this⟩ := this
        exact callIso_of rfl this (by first | rfl | simp only [go_sem, seval]) (by first | rfl | simp only [go_sem, seval])
    · rcases cond_split h with ⟨h31, h⟩ | ⟨h31, h⟩
      · obtain ⟨v32, h33, h⟩ := obind_some h
        obtain ⟨v34, h35, h⟩ := obind_some h
        have hr : wrapF .i64 ((wrapF .i64 (0 + 8)) + (wrapF .i64 (v34.toNat : Int))) = r := Option.some.inj h
        subst hr
        have this : ∃ hh, callFn pr (X pr) 162 [.int .u64 a0] [] = some (.int .i64 (wrapF .i64 ((wrapF .i64 (0 + 8)) + (wrapF .i64 (v34.toNat : Int)))), false, hh) := by
          rw [callFn_at (show pr.fns 162 = some c162 from rfl) (by simp)]
          simp only [go_sem, seval, c162, h1, h21, h31, b_shr_O h33, strIdx_O h35]
          exact ⟨_, rfl⟩
        obtain ⟨hh, this⟩ := this
        exact callIso_of rfl this (by first | rfl | simp only [go_sem, seval]) (by first | rfl | simp only [go_sem, seval])
      · obtain ⟨v36, h37, h⟩ := obind_some h
        have hr : wrapF .i64 (0 + (wrapF .i64 (v36.toNat : Int))) = r := Option.some.inj h
        subst hr
        have this : ∃ hh, callFn pr (X pr) 162 [.int .u64 a0] [] = some (.int .i64 (wrapF .i64 (0 + (wrapF .i64 (v36.toNat : Int)))), false, hh) := by
          rw [callFn_at (show pr.fns 162 = some c162 from rfl) (by simp)]
          simp only [go_sem, seval, c162, h1, h21, h31, strIdx_O h37]
          exact ⟨_, rfl⟩
        obtain ⟨hh, this⟩ := this
        exact callIso_of rfl this (by first | rfl | simp only [go_sem, seval]) (by first | rfl | simp only [go_sem, seval])
noncomputable def f150 (a0 : Int) : Option Int :=
  obind (f162 a0) fun v1 =>
  some v1
theorem W150 {a0 : Int} {r} (h : f150 a0 = some r) : callIso pr (X pr) 150 [.int .u64 a0] = some (.int .i64 r, false) := by
  unfold f150 at h
  obtain ⟨v1, h2, h⟩ := obind_some h
  have wh2 : callIso pr (X pr) 162 [.int .u64 a0] = some (.int .i64 v1, false) := W162 h2
  have hr : v1 = r := Option.some.inj h
  subst hr
  have this : ∃ hh, callFn pr (X pr) 150 [.int .u64 a0] [] = some (.int .i64 v1, false, hh) := by
    rw [callFn_at (show pr.fns 150 = some c150 from rfl) (by simp)]
    simp only [go_sem, seval, c150, wh2]
    exact ⟨_, rfl⟩
  obtain ⟨hh, this⟩ := this
  exact callIso_of rfl this (by first | rfl | simp only [go_sem, seval]) (by first | rfl | simp only [go_sem, seval])
noncomputable def f163 (a0 : Int) : Option Bool :=
  some false
theorem W163 {a0 : Int} {r} (h : f163 a0 = some r) : callIso pr (X pr) 163 [.int .i64 a0] = some (.bool r, false) := by
  unfold f163 at h
  have hr : false = r := Option.some.inj h
  subst hr
  have this : ∃ hh, callFn pr (X pr) 163 [.int .i64 a0] [] = some (.bool false, false, hh) := by
    rw [callFn_at (show pr.fns 163 = some c163 from rfl) (by simp)]
    simp only [go_sem, seval, c163]
    exact ⟨_, rfl⟩
  obtain ⟨hh, this⟩ := this
  exact callIso_of rfl this (by first | rfl | simp only [go_sem, seval]) (by first | rfl | simp only [go_sem, seval])
noncomputable def f151 (a0 : Int) (a1 : Int) : Option Int :=
  obind (f163 a0) fun v1 =>
  obind (f163 a1) fun v3 =>
  cond v1
   (cond v3
     (some 0)
     (some (-1)))
   (cond v3
     (some 1)
     (cond (decide (a0 < a1))
       (some (-1))
       (cond (decide (a1 < a0))
         (some 1)
         (some 0))))
theorem W151 {a0 : Int} {a1 : Int} {r} (h : f151 a0 a1 = some r) : callIso pr (X pr) 151 [.int .i64 a0, .int .i64 a1] = some (.int .i64 r, false) := by
  unfold f151 at h
  obtain ⟨v1, h2, h⟩ := obind_some h
  have wh2 : callIso pr (X pr) 163 [.int .i64 a0] = some (.bool v1, false) := W163 h2
  obtain ⟨v3, h4, h⟩ := obind_some h
  have wh4 : callIso pr (X pr) 163 [.int .i64 a1] = some (.bool v3, false) := W163 h4
  rcases cond_split h with ⟨h5, h⟩ | ⟨h5, h⟩
  · rcases cond_split h with ⟨h6, h⟩ | ⟨h6, h⟩
    · have hr : 0 = r := Option.some.inj h
      subst hr
      have this : ∃ hh, callFn pr (X pr) 151 [.int .i64 a0, .int .i64 a1] [] = some (.int .i64 0, false, hh) := by
        rw [callFn_at (show pr.fns 151 = some c151 from rfl) (by simp)]
        simp only [go_sem, seval, c151, wh2, wh4, h5, h6]
        exact ⟨_, rfl⟩
      obtain ⟨hh, this⟩ := this
      exact callIso_of rfl this (by first | rfl | simp only [go_sem, seval]) (by first | rfl | simp only [go_sem, seval])
    · have hr : (-1) = r := Option.some.inj h
      subst hr
      have this : ∃ hh, callFn pr (X pr) 151 [.int .i64 a0, .int .i64 a1] [] = some (.int .i64 (-1), false, hh) := by
        rw [callFn_at (show pr.fns 151 = some c151 from rfl) (by simp)]
        simp only [go_sem, seval, c151, wh2, wh4, h5, h6]
        exact ⟨_, rfl⟩
      obtain ⟨hh, this⟩ := this
      exact callIso_of rfl this (by first | rfl | simp only [go_sem, seval]) (by first | rfl | simp only [go_sem, seval])
  · rcases cond_split h with ⟨h7, h⟩ | ⟨h7, h⟩
    · have hr : 1 = r := Option.some.inj h
      subst hr
      have this : ∃ hh, callFn pr (X pr) 151 [.int .i64 a0, .int .i64 a1] [] = some (.int .i64 1, false, hh) := by
        rw [callFn_at (show pr.fns 151 = some c151 from rfl) (by simp)]
        simp only [go_sem, seval, c151, wh2, wh4, h5, h7]
        exact ⟨_, rfl⟩
      obtain ⟨hh, this⟩ := this
      exact callIso_of rfl this (by first | rfl | simp only [go_sem, seval]) (by first | rfl | simp only [go_sem, seval])
    · rcases cond_split h with ⟨h8, h⟩ | ⟨h8, h⟩
      · have hr : (-1) = r := Option.some.inj h
        subst hr
        have this : ∃ hh, callFn pr (X pr) 151 [.int .i64 a0, .int .i64 a1] [] = some (.int .i64 (-1), false, hh) := by
          rw [callFn_at (show pr.fns 151 = some c151 from rfl) (by simp)]
          simp only [go_sem, seval, c151, wh2, wh4, h5, h7, h8]
          exact ⟨_, rfl⟩
        obtain ⟨hh, this⟩ := this
        exact callIso_of rfl this (by first | rfl | simp only [go_sem, seval]) (by first | rfl | simp only [go_sem, seval])
      · rcases cond_split h with ⟨h9, h⟩ | ⟨h9, h⟩
        · have hr : 1 = r := Option.some.inj h
          subst hr
          have this : ∃ hh, callFn pr (X pr) 151 [.int .i64 a0, .int .i64 a1] [] = some (.int .i64 1, false, hh) := by
            rw [callFn_at (show pr.fns 151 = some c151 from rfl) (by simp)]
            simp only [go_sem, seval, c151, wh2, wh4, h5, h7, h8, h9]
            exact ⟨_, rfl⟩
          obtain ⟨hh, this⟩ := this
          exact callIso_of rfl this (by first | rfl | simp only [go_sem, seval]) (by first | rfl | simp only [go_sem, seval])
        · have hr : 0 = r := Option.some.inj h
          subst hr
          have this : ∃ hh, callFn pr (X pr) 151 [.int .i64 a0, .int .i64 a1] [] = some (.int .i64 0, false, hh) := by
            rw [callFn_at (show pr.fns 151 = some c151 from rfl) (by simp)]
            simp only [go_sem, seval, c151, wh2, wh4, h5, h7, h8, h9]
            exact ⟨_, rfl⟩
          obtain ⟨hh, this⟩ := this
          exact callIso_of rfl this (by first | rfl | simp only [go_sem, seval]) (by first | rfl | simp only [go_sem, seval])
noncomputable def f131 (a0 : Int) (a1 : Int) : Option Int :=
  obind (f151 a1 a0) fun v1 =>
  some v1
theorem W131 (hp : Heap) {a0 : Int} {a1 : Int} {r} (h : f131 a0 a1 = some r) : callFn pr (X pr) 131 [.int .i64 a0, .int .i64 a1] hp = some (.int .i64 r, false, hp) := by
  unfold f131 at h
  obtain ⟨v1, h2, h⟩ := obind_some h
  have wh2 : callIso pr (X pr) 151 [.int .i64 a1, .int .i64 a0] = some (.int .i64 v1, false) := W151 h2
  have hr : v1 = r := Option.some.inj h
  subst hr
  rw [callFn_at (show pr.fns 131 = some c131 from rfl) (by simp)]
  simp only [go_sem, seval, c131, wh2] <;> rfl
noncomputable def s153_1 (n0 : Nat) (a1 : Int) (a2 : Int) (s0 : Int × (List Int)) (s1 : Int × (List Int)) : Option ((Int × (List Int)) ⊕ ((Int × (List Int)))) :=
  cond (decide (a1 < s1.1))
   (obind (idxM n0 s1.2 s1.1) fun v89 =>
    obind (idxM n0 s1.2 (wrapF .i64 (s1.1 - 1))) fun v91 =>
    obind (f131 v89 v91) fun v93 =>
    cond (decide (v93 < 0))
     (obind (idxM n0 (s1.2.set s1.1.toNat v91) (wrapF .i64 (s1.1 - 1))) fun v96 =>
      some (.inl (wrapF .i64 (s1.1 - 1), (s1.2.set s1.1.toNat v91).set (wrapF .i64 (s1.1 - 1)).toNat v89)))
     (some (.inr (s1.1, s1.2))))
   (some (.inr (s1.1, s1.2)))
def St153_1 (n0 : Nat) (a1 : Int) (a2 : Int) (s0 : Int × (List Int)) (s1 : Int × (List Int)) : ASt := ⟨[(0, .ms 0 0 n0, false), (1, .int .i64 a1, false), (2, .int .i64 a2, false), (3, .fn (.func 131) [] [], false), (8, .int .i64 s0.1, false), (9, .int .i64 s1.1, false)], [.cells (icl s1.2)]⟩
def Ex153_1 (n0 : Nat) (a1 : Int) (a2 : Int) (s0 : Int × (List Int)) (d : (Int × (List Int))) : AExit × ASt := (.exit 2, ⟨[(0, .ms 0 0 n0, false), (1, .int .i64 a1, false), (2, .int .i64 a2, false), (3, .fn (.func 131) [] [], false), (8, .int .i64 s0.1, false), (9, .int .i64 d.1, false), (34, .bool false, false)], [.cells (icl d.2)]⟩)
theorem b153_1 (n0 : Nat) (a1 : Int) (a2 : Int) (s0 : Int × (List Int)) (s1 : Int × (List Int)) (r) (h : s153_1 n0 a1 a2 s0 s1 = some r) : stepO pr c153_1 (St153_1 n0 a1 a2 s0) (Ex153_1 n0 a1 a2 s0) s1 r := by
  unfold s153_1 at h
  rcases cond_split h with ⟨h88, h⟩ | ⟨h88, h⟩
  · obtain ⟨v89, h90, h⟩ := obind_some h
    obtain ⟨v91, h92, h⟩ := obind_some h
    obtain ⟨v93, h94, h⟩ := obind_some h
    have wh94 : callFn pr (X pr) 131 [.int .i64 v89, .int .i64 v91] [.cells (icl s1.2)] = some (.int .i64 v93, false, [.cells (icl s1.2)]) := W131 [.cells (icl s1.2)] h94
    rcases cond_split h with ⟨h95, h⟩ | ⟨h95, h⟩
    · obtain ⟨v96, h97, h⟩ := obind_some h
      cases h
      exact stepO_in (st' := ⟨[(0, .ms 0 0 n0, false), (1, .int .i64 a1, false), (2, .int .i64 a2, false), (3, .fn (.func 131) [] [], false), (8, .int .i64 s0.1, false), (9, .int .i64 (wrapF .i64 (s1.1 - 1)), false)], [.cells (icl ((s1.2.set s1.1.toNat v91).set (wrapF .i64 (s1.1 - 1)).toNat v89))]⟩) (by simp only [go_sem, seval, c153_1, St153_1, h88, idx_ms_O h90, ld_ms_O h90, st_ms_O h90, idx_ms_O h92, ld_ms_O h92, st_ms_O h92, wh94, h95, idx_ms_O h97, ld_ms_O h97, st_ms_O h97] <;> rfl) (gc_same (Nat.le_refl _))
    · cases h
      exact stepO_out (by simp only [go_sem, seval, c153_1, St153_1, h88, idx_ms_O h90, ld_ms_O h90, st_ms_O h90, idx_ms_O h92, ld_ms_O h92, st_ms_O h92, wh94, h95, Ex153_1] <;> rfl)
  · cases h
    exact stepO_out (by simp only [go_sem, seval, c153_1, St153_1, h88, Ex153_1] <;> rfl)
theorem l153_1 (n0 : Nat) (a1 : Int) (a2 : Int) (s0 : Int × (List Int)) {s1 : Int × (List Int)} {d} (h : itO (s153_1 n0 a1 a2 s0) s1 = some d) : X pr (.loop c153_1) (St153_1 n0 a1 a2 s0 s1) = some (Ex153_1 n0 a1 a2 s0 d) := X_itO (b153_1 n0 a1 a2 s0) (fun d hh => by cases hh) h
noncomputable def s153_0 (n0 : Nat) (a1 : Int) (a2 : Int) (s0 : Int × (List Int)) : Option ((Int × (List Int)) ⊕ ((Int × (List Int)))) :=
  cond (decide (s0.1 < a2))
   (obind (itO (s153_1 n0 a1 a2 s0) (s0.1, s0.2)) fun d98 =>
    some (.inl (wrapF .i64 (s0.1 + 1), d98.2)))
   (some (.inr (s0.1, s0.2)))
def St153_0 (n0 : Nat) (a1 : Int) (a2 : Int) (s0 : Int × (List Int)) : ASt := ⟨[(0, .ms 0 0 n0, false), (1, .int .i64 a1, false), (2, .int .i64 a2, false), (3, .fn (.func 131) [] [], false), (8, .int .i64 s0.1, false)], [.cells (icl s0.2)]⟩
def Ex153_0 (n0 : Nat) (a1 : Int) (a2 : Int) (d : (Int × (List Int))) : AExit × ASt := (.exit 0, ⟨[(0, .ms 0 0 n0, false), (1, .int .i64 a1, false), (2, .int .i64 a2, false), (3, .fn (.func 131) [] [], false), (8, .int .i64 d.1, false), (14, .bool false, false)], [.cells (icl d.2)]⟩)
theorem b153_0 (n0 : Nat) (a1 : Int) (a2 : Int) (s0 : Int × (List Int)) (r) (h : s153_0 n0 a1 a2 s0 = some r) : stepO pr c153_0 (St153_0 n0 a1 a2) (Ex153_0 n0 a1 a2) s0 r := by
  unfold s153_0 at h
  rcases cond_split h with ⟨h67, h⟩ | ⟨h67, h⟩
  · obtain ⟨d98, h99, h⟩ := obind_some h
    have wh99 : X pr (.loop c153_1) ⟨[(0, .ms 0 0 n0, false), (1, .int .i64 a1, false), (2, .int .i64 a2, false), (3, .fn (.func 131) [] [], false), (8, .int .i64 s0.1, false), (9, .int .i64 s0.1, false)], [.cells (icl s0.2)]⟩ = some (.exit 2, ⟨[(0, .ms 0 0 n0, false), (1, .int .i64 a1, false), (2, .int .i64 a2, false), (3, .fn (.func 131) [] [], false), (8, .int .i64 s0.1, false), (9, .int .i64 d98.1, false), (34, .bool false, false)], [.cells (icl d98.2)]⟩) := l153_1 n0 a1 a2 s0 h99
    cases h
    exact stepO_in (st' := ⟨[(0, .ms 0 0 n0, false), (1, .int .i64 a1, false), (2, .int .i64 a2, false), (3, .fn (.func 131) [] [], false), (8, .int .i64 (wrapF .i64 (s0.1 + 1)), false)], [.cells (icl d98.2)]⟩) (by simp only [go_sem, seval, c153_0, St153_0, h67, wh99] <;> rfl) (gc_same (Nat.le_refl _))
  · cases h
    exact stepO_out (by simp only [go_sem, seval, c153_0, St153_0, h67, Ex153_0] <;> rfl)
theorem l153_0 (n0 : Nat) (a1 : Int) (a2 : Int) {s0 : Int × (List Int)} {d} (h : itO (s153_0 n0 a1 a2) s0 = some d) : X pr (.loop c153_0) (St153_0 n0 a1 a2 s0) = some (Ex153_0 n0 a1 a2 d) := X_itO (b153_0 n0 a1 a2) (fun d hh => by cases hh) h
noncomputable def f153 (n0 : Nat) (a1 : Int) (a2 : Int) (e0 : List Int) : Option (List Int) :=
  obind (itO (s153_0 n0 a1 a2) (wrapF .i64 (a1 + 1), e0)) fun d100 =>
  some d100.2
theorem W153 {n0 : Nat} {a1 : Int} {a2 : Int} {e0 : List Int} {r} (h : f153 n0 a1 a2 e0 = some r) : callFn pr (X pr) 153 [.ms 0 0 n0, .int .i64 a1, .int .i64 a2, .fn (.func 131) [] []] [.cells (icl e0)] = some (.tup [], false, [.cells (icl r)]) := by
  unfold f153 at h
  obtain ⟨d100, h101, h⟩ := obind_some h
  have wh101 : X pr (.loop c153_0) ⟨[(0, .ms 0 0 n0, false), (1, .int .i64 a1, false), (2, .int .i64 a2, false), (3, .fn (.func 131) [] [], false), (8, .int .i64 (wrapF .i64 (a1 + 1)), false)], [.cells (icl e0)]⟩ = some (.exit 0, ⟨[(0, .ms 0 0 n0, false), (1, .int .i64 a1, false), (2, .int .i64 a2, false), (3, .fn (.func 131) [] [], false), (8, .int .i64 d100.1, false), (14, .bool false, false)], [.cells (icl d100.2)]⟩) := l153_0 n0 a1 a2 h101
  have hr : d100.2 = r := Option.some.inj h
  subst hr
  rw [callFn_at (show pr.fns 153 = some c153 from rfl) (by simp)]
  simp only [go_sem, seval, c153, wh101] <;> rfl
noncomputable def s149_0 (n0 : Nat) (a1 : Int) (a2 : Int) (a3 : Int) (e0 : List Int) (s0 : Unit) : Option (Unit ⊕ ((List Int))) :=
  cond (decide ((wrapF .i64 (a2 - a1)) ≤ 12))
   (obind (f153 n0 a1 a2 e0) fun v6 =>
    some (.inr v6))
   (cond (decide (a3 = 0))
     (none)
     (none))
def St149_0 (n0 : Nat) (a1 : Int) (a2 : Int) (a3 : Int) (e0 : List Int) (s0 : Unit) : ASt := ⟨[(0, .ms 0 0 n0, false), (1, .int .i64 a1, false), (2, .int .i64 a2, false), (3, .int .i64 a3, false), (4, .fn (.func 131) [] [], false), (10, .bool true, false), (11, .bool true, false)], [.cells (icl e0)]⟩
def Ex149_0 (n0 : Nat) (a1 : Int) (a2 : Int) (a3 : Int) (e0 : List Int) (d : (List Int)) : AExit × ASt := (.ret, ⟨[], [.cells (icl d)]⟩)
theorem b149_0 (n0 : Nat) (a1 : Int) (a2 : Int) (a3 : Int) (e0 : List Int) (s0 : Unit) (r) (h : s149_0 n0 a1 a2 a3 e0 s0 = some r) : stepO pr c149_0 (St149_0 n0 a1 a2 a3 e0) (Ex149_0 n0 a1 a2 a3 e0) s0 r := by
  unfold s149_0 at h
  rcases cond_split h with ⟨h5, h⟩ | ⟨h5, h⟩
  · obtain ⟨v6, h7, h⟩ := obind_some h
    have wh7 : callFn pr (X pr) 153 [.ms 0 0 n0, .int .i64 a1, .int .i64 a2, .fn (.func 131) [] []] [.cells (icl e0)] = some (.tup [], false, [.cells (icl v6)]) := W153 h7
    cases h
    exact stepO_out (by simp only [go_sem, seval, c149_0, St149_0, h5, wh7, Ex149_0] <;> rfl)
  · rcases cond_split h with ⟨h8, h⟩ | ⟨h8, h⟩
    · cases h
    · cases h
theorem l149_0 (n0 : Nat) (a1 : Int) (a2 : Int) (a3 : Int) (e0 : List Int) {s0 : Unit} {d} (h : itO (s149_0 n0 a1 a2 a3 e0) s0 = some d) : X pr (.loop c149_0) (St149_0 n0 a1 a2 a3 e0 s0) = some (Ex149_0 n0 a1 a2 a3 e0 d) := X_itO (b149_0 n0 a1 a2 a3 e0) (fun d hh => by cases hh) h
noncomputable def f149 (n0 : Nat) (a1 : Int) (a2 : Int) (a3 : Int) (e0 : List Int) : Option (List Int) :=
  obind (itO (s149_0 n0 a1 a2 a3 e0) ()) fun d9 =>
  some d9
theorem W149 {n0 : Nat} {a1 : Int} {a2 : Int} {a3 : Int} {e0 : List Int} {r} (h : f149 n0 a1 a2 a3 e0 = some r) : callFn pr (X pr) 149 [.ms 0 0 n0, .int .i64 a1, .int .i64 a2, .int .i64 a3, .fn (.func 131) [] []] [.cells (icl e0)] = some (.tup [], false, [.cells (icl r)]) := by
  unfold f149 at h
  obtain ⟨d9, h10, h⟩ := obind_some h
  have wh10 : X pr (.loop c149_0) ⟨[(0, .ms 0 0 n0, false), (1, .int .i64 a1, false), (2, .int .i64 a2, false), (3, .int .i64 a3, false), (4, .fn (.func 131) [] [], false), (10, .bool true, false), (11, .bool true, false)], [.cells (icl e0)]⟩ = some (.ret, ⟨[], [.cells (icl d9)]⟩) := l149_0 n0 a1 a2 a3 e0 h10
  have hr : d9 = r := Option.some.inj h
  subst hr
  rw [callFn_at (show pr.fns 149 = some c149 from rfl) (by simp)]
  simp only [go_sem, seval, c149, wh10] <;> rfl
noncomputable def f130 (n0 : Nat) (e0 : List Int) : Option (List Int) :=
  obind (f150 (wrapF .u64 (n0 : Int))) fun v1 =>
  obind (f149 n0 0 (n0 : Int) v1 e0) fun v3 =>
  some v3
theorem W130 {n0 : Nat} {e0 : List Int} {r} (h : f130 n0 e0 = some r) : callFn pr (X pr) 130 [.ms 0 0 n0, .fn (.func 131) [] []] [.cells (icl e0)] = some (.tup [], false, [.cells (icl r)]) := by
  unfold f130 at h
  obtain ⟨v1, h2, h⟩ := obind_some h
  have wh2 : callIso pr (X pr) 150 [.int .u64 (wrapF .u64 (n0 : Int))] = some (.int .i64 v1, false) := W150 h2
  obtain ⟨v3, h4, h⟩ := obind_some h
  have wh4 : callFn pr (X pr) 149 [.ms 0 0 n0, .int .i64 0, .int .i64 (n0 : Int), .int .i64 v1, .fn (.func 131) [] []] [.cells (icl e0)] = some (.tup [], false, [.cells (icl v3)]) := W149 h4
  have hr : v3 = r := Option.some.inj h
  subst hr
  rw [callFn_at (show pr.fns 130 = some c130 from rfl) (by simp)]
  simp only [go_sem, seval, c130, wh2, wh4] <;> rfl
noncomputable def s76_0 (a0 : Option (List Int)) (a1 : Int) (s0 : Int × Int × (List Int)) : Option ((Int × Int × (List Int)) ⊕ ((Int × Int × (List Int)))) :=
  cond (decide (s0.2.1 < ((a0.getD []).length : Int)))
   (obind (idxO (a0.getD []) s0.2.1) fun v17 =>
    obind (idxM ((a0.getD []).length) s0.2.2 s0.2.1) fun v19 =>
    some (.inl (wrapF .i64 (s0.1 + v17), wrapF .i64 (s0.2.1 + 1), s0.2.2.set s0.2.1.toNat v17)))
   (some (.inr (s0.1, s0.2.1, s0.2.2)))
def St76_0 (a0 : Option (List Int)) (a1 : Int) (s0 : Int × Int × (List Int)) : ASt := ⟨[(1, .int .i64 a1, false), (7, .ms 0 0 ((a0.getD []).length), false), (8, .int .i64 s0.1, false), (21, sl 1 vint a0, false), (22, .int .i64 ((a0.getD []).length : Int), false), (23, .int .i64 s0.2.1, false)], [.cells (icl s0.2.2)]⟩
def Ex76_0 (a0 : Option (List Int)) (a1 : Int) (d : (Int × Int × (List Int))) : AExit × ASt := (.exit 0, ⟨[(1, .int .i64 a1, false), (7, .ms 0 0 ((a0.getD []).length), false), (8, .int .i64 d.1, false), (21, sl 1 vint a0, false), (22, .int .i64 ((a0.getD []).length : Int), false), (23, .int .i64 d.2.1, false), (24, .bool false, false)], [.cells (icl d.2.2)]⟩)
theorem b76_0 (a0 : Option (List Int)) (a1 : Int) (s0 : Int × Int × (List Int)) (r) (h : s76_0 a0 a1 s0 = some r) : stepO pr c76_0 (St76_0 a0 a1) (Ex76_0 a0 a1) s0 r := by
  unfold s76_0 at h
  rcases cond_split h with ⟨h16, h⟩ | ⟨h16, h⟩
  · obtain ⟨v17, h18, h⟩ := obind_some h
    obtain ⟨v19, h20, h⟩ := obind_some h
    cases h
    exact stepO_in (st' := ⟨[(1, .int .i64 a1, false), (7, .ms 0 0 ((a0.getD []).length), false), (8, .int .i64 (wrapF .i64 (s0.1 + v17)), false), (21, sl 1 vint a0, false), (22, .int .i64 ((a0.getD []).length : Int), false), (23, .int .i64 (wrapF .i64 (s0.2.1 + 1)), false)], [.cells (icl (s0.2.2.set s0.2.1.toNat v17))]⟩) (by simp only [go_sem, seval, c76_0, St76_0, h16, idxR_O h18, idx_ms_O h20, ld_ms_O h20, st_ms_O h20] <;> rfl) (gc_same (Nat.le_refl _))
  · cases h
    exact stepO_out (by simp only [go_sem, seval, c76_0, St76_0, h16, Ex76_0] <;> rfl)
theorem l76_0 (a0 : Option (List Int)) (a1 : Int) {s0 : Int × Int × (List Int)} {d} (h : itO (s76_0 a0 a1) s0 = some d) : X pr (.loop c76_0) (St76_0 a0 a1 s0) = some (Ex76_0 a0 a1 d) := X_itO (b76_0 a0 a1) (fun d hh => by cases hh) h
noncomputable def f76 (a0 : Option (List Int)) (a1 : Int) : Option (Int × Int) :=
  obind (f125 a0 a1) fun v1 =>
  cond (decide (v1 = 0))
   (obind (mkO ((a0.getD []).length)) fun v4 =>
    obind (itO (s76_0 a0 a1) (0, 0, v4)) fun d21 =>
    obind (f130 ((a0.getD []).length) d21.2.2) fun v23 =>
    obind (quoO .i64 (wrapF .i64 ((wrapF .i64 (d21.1 + a1)) - 1)) a1) fun v25 =>
    cond (decide (0 < (((a0.getD []).length) : Int)))
     (obind (idxM ((a0.getD []).length) v23 0) fun v28 =>
      cond (decide (a1 < (((a0.getD []).length) : Int)))
       (obind (idxM ((a0.getD []).length) v23 (wrapF .i64 (a1 - 1))) fun v31 =>
        obind (idxM ((a0.getD []).length) v23 a1) fun v33 =>
        some (max (max v25 v28) (wrapF .i64 (v31 + v33)), 0))
       (some (max v25 v28, 0)))
     (cond (decide (a1 < (((a0.getD []).length) : Int)))
       (obind (idxM ((a0.getD []).length) v23 (wrapF .i64 (a1 - 1))) fun v36 =>
        obind (idxM ((a0.getD []).length) v23 a1) fun v38 =>
        some (max v25 (wrapF .i64 (v36 + v38)), 0))
       (some (v25, 0))))
   (some (0, v1))
theorem W76 {a0 : Option (List Int)} {a1 : Int} {r} (h : f76 a0 a1 = some r) : callIso pr (X pr) 76 [sl 1 vint a0, .int .i64 a1] = some (.tup [.int .i64 r.1, .int .i64 r.2], false) := by
  unfold f76 at h
  obtain ⟨v1, h2, h⟩ := obind_some h
  have wh2 : callIso pr (X pr) 125 [sl 1 vint a0, .int .i64 a1] = some (.int .i64 v1, false) := W125 h2
  rcases cond_split h with ⟨h3, h⟩ | ⟨h3, h⟩
  · obtain ⟨v4, h5, h⟩ := obind_some h
    obtain ⟨d21, h22, h⟩ := obind_some h
    have wh22 : X pr (.loop c76_0) ⟨[(1, .int .i64 a1, false), (7, .ms 0 0 ((a0.getD []).length), false), (8, .int .i64 0, false), (21, sl 1 vint a0, false), (22, .int .i64 ((a0.getD []).length : Int), false), (23, .int .i64 0, false)], [.cells (icl v4)]⟩ = some (.exit 0, ⟨[(1, .int .i64 a1, false), (7, .ms 0 0 ((a0.getD []).length), false), (8, .int .i64 d21.1, false), (21, sl 1 vint a0, false), (22, .int .i64 ((a0.getD []).length : Int), false), (23, .int .i64 d21.2.1, false), (24, .bool false, false)], [.cells (icl d21.2.2)]⟩) := l76_0 a0 a1 h22
    obtain ⟨v23, h24, h⟩ := obind_some h
    have wh24 : callFn pr (X pr) 130 [.ms 0 0 ((a0.getD []).length), .fn (.func 131) [] []] [.cells (icl d21.2.2)] = some (.tup [], false, [.cells (icl v23)]) := W130 h24
    obtain ⟨v25, h26, h⟩ := obind_some h
    rcases cond_split h with ⟨h27, h⟩ | ⟨h27, h⟩
    · obtain ⟨v28, h29, h⟩ := obind_some h
      rcases cond_split h with ⟨h30, h⟩ | ⟨h30, h⟩
      · obtain ⟨v31, h32, h⟩ := obind_some h
        obtain ⟨v33, h34, h⟩ := obind_some h
        have hr : (max (max v25 v28) (wrapF .i64 (v31 + v33)), 0) = r := Option.some.inj h
        subst hr
        have this : ∃ hh, callFn pr (X pr) 76 [sl 1 vint a0, .int .i64 a1] [] = some (.tup [.int .i64 (max (max v25 v28) (wrapF .i64 (v31 + v33))), .int .i64 0], false, hh) := by
          rw [callFn_at (show pr.fns 76 = some c76 from rfl) (by simp)]
          simp only [go_sem, seval, c76, wh2, h3, mksl_O h5, wh22, wh24, b_quo_O h26, h27, idx_ms_O h29, (show loadCellsA (icl v23) 0 1 = some [.int .i64 v28] from ld_ms_O h29), (show ∀ x, storeCellsA (icl v23) 0 [.int .i64 x] = some (icl (v23.set 0 x)) from fun x => st_ms_O h29), h30, idx_ms_O h32, ld_ms_O h32, st_ms_O h32, idx_ms_O h34, ld_ms_O h34, st_ms_O h34]
          exact ⟨_, rfl⟩
        obtain ⟨hh, this⟩ := this
        exact callIso_of rfl this (by first | rfl | simp only [go_sem, seval]) (by first | rfl | simp only [go_sem, seval])
      · have hr : (max v25 v28, 0) = r := Option.some.inj h
        subst hr
        have this : ∃ hh, callFn pr (X pr) 76 [sl 1 vint a0, .int .i64 a1] [] = some (.tup [.int .i64 (max v25 v28), .int .i64 0], false, hh) := by
          rw [callFn_at (show pr.fns 76 = some c76 from rfl) (by simp)]
          simp only [go_sem, seval, c76, wh2, h3, mksl_O h5, wh22, wh24, b_quo_O h26, h27, idx_ms_O h29, (show loadCellsA (icl v23) 0 1 = some [.int .i64 v28] from ld_ms_O h29), (show ∀ x, storeCellsA (icl v23) 0 [.int .i64 x] = some (icl (v23.set 0 x)) from fun x => st_ms_O h29), h30]
          exact ⟨_, rfl⟩
        obtain ⟨hh, this⟩ := this
        exact callIso_of rfl this (by first | rfl | simp only [go_sem, seval]) (by first | rfl | simp only [go_sem, seval])
    · rcases cond_split h with ⟨h35, h⟩ | ⟨h35, h⟩
      · obtain ⟨v36, h37, h⟩ := obind_some h
        obtain ⟨v38, h39, h⟩ := obind_some h
        have hr : (max v25 (wrapF .i64 (v36 + v38)), 0) = r := Option.some.inj h
        subst hr
        have this : ∃ hh, callFn pr (X pr) 76 [sl 1 vint a0, .int .i64 a1] [] = some (.tup [.int .i64 (max v25 (wrapF .i64 (v36 + v38))), .int .i64 0], false, hh) := by
          rw [callFn_at (show pr.fns 76 = some c76 from rfl) (by simp)]
          simp only [go_sem, seval, c76, wh2, h3, mksl_O h5, wh22, wh24, b_quo_O h26, h27, h35, idx_ms_O h37, ld_ms_O h37, st_ms_O h37, idx_ms_O h39, ld_ms_O h39, st_ms_O h39]
          exact ⟨_, rfl⟩
        obtain ⟨hh, this⟩ := this
        exact callIso_of rfl this (by first | rfl | simp only [go_sem, seval]) (by first | rfl | simp only [go_sem, seval])
      · have hr : (v25, 0) = r := Option.some.inj h
        subst hr
        have this : ∃ hh, callFn pr (X pr) 76 [sl 1 vint a0, .int .i64 a1] [] = some (.tup [.int .i64 v25, .int .i64 0], false, hh) := by
          rw [callFn_at (show pr.fns 76 = some c76 from rfl) (by simp)]
          simp only [go_sem, seval, c76, wh2, h3, mksl_O h5, wh22, wh24, b_quo_O h26, h27, h35]
          exact ⟨_, rfl⟩
        obtain ⟨hh, this⟩ := this
        exact callIso_of rfl this (by first | rfl | simp only [go_sem, seval]) (by first | rfl | simp only [go_sem, seval])
  · have hr : (0, v1) = r := Option.some.inj h
    subst hr
    have this : ∃ hh, callFn pr (X pr) 76 [sl 1 vint a0, .int .i64 a1] [] = some (.tup [.int .i64 0, .int .i64 v1], false, hh) := by
      rw [callFn_at (show pr.fns 76 = some c76 from rfl) (by simp)]
      simp only [go_sem, seval, c76, wh2, h3]
      exact ⟨_, rfl⟩
    obtain ⟨hh, this⟩ := this
    exact callIso_of rfl this (by first | rfl | simp only [go_sem, seval]) (by first | rfl | simp only [go_sem, seval])
noncomputable def s132_1 (v1 : List Int) (s0 : Int × (List Int)) (s1 : Int × (List Int)) : Option ((Int × (List Int)) ⊕ ((Int × (List Int)))) :=
  cond (decide (0 < s1.1))
   (obind (idxM v1.length s1.2 s1.1) fun v78 =>
    obind (idxM v1.length s1.2 (wrapF .i64 (s1.1 - 1))) fun v80 =>
    cond (decide (v80 < v78))
     (obind (idxM v1.length (s1.2.set s1.1.toNat v80) (wrapF .i64 (s1.1 - 1))) fun v83 =>
      some (.inl (wrapF .i64 (s1.1 - 1), (s1.2.set s1.1.toNat v80).set (wrapF .i64 (s1.1 - 1)).toNat v78)))
     (some (.inr (s1.1, s1.2))))
   (some (.inr (s1.1, s1.2)))
noncomputable def s132_0 (v1 : List Int) (s0 : Int × (List Int)) : Option ((Int × (List Int)) ⊕ ((Int × (List Int)))) :=
  cond (decide (s0.1 < (v1.length : Int)))
   (obind (itO (s132_1 v1 s0) (s0.1, s0.2)) fun d85 =>
    some (.inl (wrapF .i64 (s0.1 + 1), d85.2)))
   (some (.inr (s0.1, s0.2)))
noncomputable def f132 (a0 : Option (List Int)) : Option (Option (List Int)) :=
  obind (capO (a0.getD [])) fun v1 =>
  obind (itO (s132_0 v1) (0, v1)) fun d87 =>
  obind (takeM v1.length d87.2) fun v89 =>
  some (some v89)
noncomputable def s79_0 (a1 : Int) (v1 : Option (List Int)) (s0 : Int × Int × Int) : Option ((Int × Int × Int) ⊕ ((Int × Int × Int))) :=
  cond (decide (s0.2.2 < ((v1.getD []).length : Int)))
   (obind (idxO (v1.getD []) s0.2.2) fun v10 =>
    some (.inl (wrapF .i64 (s0.1 + v10), max s0.2.1 v10, wrapF .i64 (s0.2.2 + 1))))
   (some (.inr (s0.1, s0.2.1, s0.2.2)))
noncomputable def f79 (a0 : Option (List Int)) (a1 : Int) : Option Int :=
  obind (f132 a0) fun v1 =>
  obind (itO (s79_0 a1 v1) (0, 0, 0)) fun d12 =>
  obind (quoO .i64 (wrapF .i64 ((wrapF .i64 (d12.1 + a1)) - 1)) a1) fun v14 =>
  cond (decide (a1 < ((v1.getD []).length : Int)))
   (obind (idxO (v1.getD []) (wrapF .i64 (a1 - 1))) fun v17 =>
    obind (idxO (v1.getD []) a1) fun v19 =>
    some (max (max d12.2.1 v14) (wrapF .i64 (v17 + v19))))
   (some (max d12.2.1 v14))
end Go.Z
