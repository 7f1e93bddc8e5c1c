/-
  Work and benches: functions that mirror the runs, and the runs (printed by walk.py).
-/
import Derived.Test.YtbkpojiedkhfkaaGreatB1
set_option linter.unusedVariables false
set_option linter.unusedSimpArgs false
set_option maxRecDepth 100000
set_option linter.unusedSimpArgs false
set_option linter.unusedVariables false
set_option maxHeartbeats 4000000
namespace Go.Z
open Go Go.Abs
noncomputable def s93_0m (n0 : Nat) (e0 : List Int) (s0 : Int × Int) : Option ((Int × Int) ⊕ ((Int × Int))) :=
  cond (decide (s0.2 < (n0 : Int)))
   (obind (idxM n0 e0 s0.2) fun v11 =>
    some (.inl (max s0.1 v11, wrapF .i64 (s0.2 + 1))))
   (some (.inr (s0.1, s0.2)))
def St93_0m (n0 : Nat) (e0 : List Int) (s0 : Int × Int) : ASt := ⟨[(0, .ms 0 0 n0, false), (3, .int .i64 s0.1, false), (4, .int .i64 s0.2, false)], [.cells (icl e0)]⟩
def Ex93_0m (n0 : Nat) (e0 : List Int) (d : (Int × Int)) : AExit × ASt := (.exit 0, ⟨[(0, .ms 0 0 n0, false), (3, .int .i64 d.1, false), (4, .int .i64 d.2, false), (15, .bool false, false)], [.cells (icl e0)]⟩)
theorem b93_0m (n0 : Nat) (e0 : List Int) (s0 : Int × Int) (r) (h : s93_0m n0 e0 s0 = some r) : stepO pr c93_0 (St93_0m n0 e0) (Ex93_0m n0 e0) s0 r := by
  unfold s93_0m at h
  rcases cond_split h with ⟨h10, h⟩ | ⟨h10, h⟩
  · obtain ⟨v11, h12, h⟩ := obind_some h
    cases h
    exact stepO_in (st' := ⟨[(0, .ms 0 0 n0, false), (3, .int .i64 (max s0.1 v11), false), (4, .int .i64 (wrapF .i64 (s0.2 + 1)), false)], [.cells (icl e0)]⟩) (by simp only [go_sem, seval, c93_0, St93_0m, h10, idx_ms_O h12, ld_ms_O h12, st_ms_O h12] <;> rfl) (gc_same (Nat.le_refl _))
  · cases h
    exact stepO_out (by simp only [go_sem, seval, c93_0, St93_0m, h10, Ex93_0m] <;> rfl)
theorem l93_0m (n0 : Nat) (e0 : List Int) {s0 : Int × Int} {d} (h : itO (s93_0m n0 e0) s0 = some d) : X pr (.loop c93_0) (St93_0m n0 e0 s0) = some (Ex93_0m n0 e0 d) := X_itO (b93_0m n0 e0) (fun d hh => by cases hh) h
noncomputable def f93m (n0 : Nat) (e0 : List Int) : Option Int :=
  cond (decide ((n0 : Int) < 1))
   (none)
   (obind (idxM n0 e0 0) fun v2 =>
    obind (itO (s93_0m n0 e0) (v2, 1)) fun d13 =>
    some d13.1)
theorem W93m {n0 : Nat} {e0 : List Int} {r} (h : f93m n0 e0 = some r) : callFn pr (X pr) 93 [.ms 0 0 n0] [.cells (icl e0)] = some (.int .i64 r, false, [.cells (icl e0)]) := by
  unfold f93m at h
  rcases cond_split h with ⟨h1, h⟩ | ⟨h1, h⟩
  · cases h
  · obtain ⟨v2, h3, h⟩ := obind_some h
    obtain ⟨d13, h14, h⟩ := obind_some h
    have wh14 : X pr (.loop c93_0) ⟨[(0, .ms 0 0 n0, false), (3, .int .i64 v2, false), (4, .int .i64 1, false)], [.cells (icl e0)]⟩ = some (.exit 0, ⟨[(0, .ms 0 0 n0, false), (3, .int .i64 d13.1, false), (4, .int .i64 d13.2, false), (15, .bool false, false)], [.cells (icl e0)]⟩) := l93_0m n0 e0 h14
    have hr : d13.1 = r := Option.some.inj h
    subst hr
    rw [callFn_at (show pr.fns 93 = some c93 from rfl) (by simp)]
    simp only [go_sem, seval, c93, h1, idx_ms_O h3, (show loadCellsA (icl e0) 0 1 = some [.int .i64 v2] from ld_ms_O h3), (show ∀ x, storeCellsA (icl e0) 0 [.int .i64 x] = some (icl (e0.set 0 x)) from fun x => st_ms_O h3), wh14] <;> rfl
noncomputable def s129_0 (a0 : Option (List Int)) (a1 : Option (List Int)) (s0 : Int × (List Int)) : Option ((Int × (List Int)) ⊕ ((Int × (List Int)))) :=
  cond (decide (s0.1 < ((a1.getD []).length : Int)))
   (obind (idxO (a1.getD []) s0.1) fun v16 =>
    obind (idxM 4 s0.2 v16) fun v18 =>
    obind (idxO (a0.getD []) s0.1) fun v20 =>
    some (.inl (wrapF .i64 (s0.1 + 1), s0.2.set v16.toNat (wrapF .i64 (v18 + v20)))))
   (some (.inr (s0.1, s0.2)))
def St129_0 (a0 : Option (List Int)) (a1 : Option (List Int)) (s0 : Int × (List Int)) : ASt := ⟨[(0, sl 1 vint a0, false), (5, .ptr 0 0, false), (8, sl 1 vint a1, false), (9, .int .i64 ((a1.getD []).length : Int), false), (10, .int .i64 s0.1, false)], [.cells (icl s0.2)]⟩
def Ex129_0 (a0 : Option (List Int)) (a1 : Option (List Int)) (d : (Int × (List Int))) : AExit × ASt := (.exit 0, ⟨[(0, sl 1 vint a0, false), (5, .ptr 0 0, false), (8, sl 1 vint a1, false), (9, .int .i64 ((a1.getD []).length : Int), false), (10, .int .i64 d.1, false), (11, .bool false, false)], [.cells (icl d.2)]⟩)
theorem b129_0 (a0 : Option (List Int)) (a1 : Option (List Int)) (s0 : Int × (List Int)) (r) (h : s129_0 a0 a1 s0 = some r) : stepO pr c129_0 (St129_0 a0 a1) (Ex129_0 a0 a1) s0 r := by
  unfold s129_0 at h
  rcases cond_split h with ⟨h15, h⟩ | ⟨h15, h⟩
  · obtain ⟨v16, h17, h⟩ := obind_some h
    obtain ⟨v18, h19, h⟩ := obind_some h
    obtain ⟨v20, h21, h⟩ := obind_some h
    cases h
    exact stepO_in (st' := ⟨[(0, sl 1 vint a0, false), (5, .ptr 0 0, false), (8, sl 1 vint a1, false), (9, .int .i64 ((a1.getD []).length : Int), false), (10, .int .i64 (wrapF .i64 (s0.1 + 1)), false)], [.cells (icl (s0.2.set v16.toNat (wrapF .i64 (v18 + v20))))]⟩) (by simp only [go_sem, seval, c129_0, St129_0, h15, idxR_O h17, idx_arr_O h19, ld_ms_O h19, st_ms_O h19, idxR_O h21] <;> rfl) (gc_same (Nat.le_refl _))
  · cases h
    exact stepO_out (by simp only [go_sem, seval, c129_0, St129_0, h15, Ex129_0] <;> rfl)
theorem l129_0 (a0 : Option (List Int)) (a1 : Option (List Int)) {s0 : Int × (List Int)} {d} (h : itO (s129_0 a0 a1) s0 = some d) : X pr (.loop c129_0) (St129_0 a0 a1 s0) = some (Ex129_0 a0 a1 d) := X_itO (b129_0 a0 a1) (fun d hh => by cases hh) h
noncomputable def f129 (a0 : Option (List Int)) (a1 : Option (List Int)) : Option Int :=
  obind (itO (s129_0 a0 a1) (0, [0, 0, 0, 0])) fun d22 =>
  obind (f93m 4 d22.2) fun v24 =>
  some v24
theorem W129 {a0 : Option (List Int)} {a1 : Option (List Int)} {r} (h : f129 a0 a1 = some r) : callIso pr (X pr) 129 [sl 1 vint a0, sl 1 vint a1] = some (.int .i64 r, false) := by
  unfold f129 at h
  obtain ⟨d22, h23, h⟩ := obind_some h
  have wh23 : X pr (.loop c129_0) ⟨[(0, sl 1 vint a0, false), (5, .ptr 0 0, false), (8, sl 1 vint a1, false), (9, .int .i64 ((a1.getD []).length : Int), false), (10, .int .i64 0, false)], [.cells (icl [0, 0, 0, 0])]⟩ = some (.exit 0, ⟨[(0, sl 1 vint a0, false), (5, .ptr 0 0, false), (8, sl 1 vint a1, false), (9, .int .i64 ((a1.getD []).length : Int), false), (10, .int .i64 d22.1, false), (11, .bool false, false)], [.cells (icl d22.2)]⟩) := l129_0 a0 a1 h23
  obtain ⟨v24, h25, h⟩ := obind_some h
  have wh25 : callFn pr (X pr) 93 [.ms 0 0 4] [.cells (icl d22.2)] = some (.int .i64 v24, false, [.cells (icl d22.2)]) := W93m h25
  have hr : v24 = r := Option.some.inj h
  subst hr
  have this : ∃ hh, callFn pr (X pr) 129 [sl 1 vint a0, sl 1 vint a1] [] = some (.int .i64 v24, false, hh) := by
    rw [callFn_at (show pr.fns 129 = some c129 from rfl) (by simp)]
    simp only [go_sem, seval, c129, alloc4_O, wh23, wh25]
    exact ⟨_, rfl⟩
  obtain ⟨hh, this⟩ := this
  exact callIso_of rfl this (by first | rfl | simp only [go_sem, seval]) (by first | rfl | simp only [go_sem, seval])
noncomputable def s126_0 (a1 : Option (List Int)) (c0_0 : Option (List Int)) (c0_1 : Int) (rec : (Option (List Int)) → (Option (List Int)) → Int → (Option (List Int)) → Bool → Int → Option ((Option (List Int)) × Int × Bool)) (s0 : Int × (Option (List Int)) × Int × Bool) : Option ((Int × (Option (List Int)) × Int × Bool) ⊕ ((Int × (Option (List Int)) × Bool × Int))) :=
  cond (decide (s0.1 < c0_1))
   (cond a1.isNone
     (obind (E142n a1) fun v38 =>
      obind (rec (some [s0.1]) c0_0 c0_1 s0.2.1 s0.2.2.2 s0.2.2.1) fun v40 =>
      some (.inl (wrapF .i64 (s0.1 + 1), v40.1, v40.2.1, v40.2.2)))
     (obind (E142 a1) fun v42 =>
      obind (apO v42 [s0.1]) fun v44 =>
      obind (rec v44 c0_0 c0_1 s0.2.1 s0.2.2.2 s0.2.2.1) fun v46 =>
      some (.inl (wrapF .i64 (s0.1 + 1), v46.1, v46.2.1, v46.2.2))))
   (some (.inr (s0.1, s0.2.1, s0.2.2.2, s0.2.2.1)))
def St126_0 (a1 : Option (List Int)) (c0_0 : Option (List Int)) (c0_1 : Int) (rec : (Option (List Int)) → (Option (List Int)) → Int → (Option (List Int)) → Bool → Int → Option ((Option (List Int)) × Int × Bool)) (s0 : Int × (Option (List Int)) × Int × Bool) : ASt := ⟨[(0, .ptr 0 0, false), (1, sl 1 vint a1, false), (48, .int .i64 c0_1, false), (49, .int .i64 s0.1, false)], [.cells [(sl 1 vint c0_0, false), (.int .i64 c0_1, false), (sl 1 vint s0.2.1, s0.2.2.2), (.int .i64 s0.2.2.1, false)]]⟩
def Ex126_0 (a1 : Option (List Int)) (c0_0 : Option (List Int)) (c0_1 : Int) (rec : (Option (List Int)) → (Option (List Int)) → Int → (Option (List Int)) → Bool → Int → Option ((Option (List Int)) × Int × Bool)) (d : (Int × (Option (List Int)) × Bool × Int)) : AExit × ASt := (.exit 0, ⟨[(0, .ptr 0 0, false), (1, sl 1 vint a1, false), (48, .int .i64 c0_1, false), (49, .int .i64 d.1, false), (50, .bool false, false)], [.cells [(sl 1 vint c0_0, false), (.int .i64 c0_1, false), (sl 1 vint d.2.1, d.2.2.1), (.int .i64 d.2.2.2, false)]]⟩)
theorem b126_0 (a1 : Option (List Int)) (c0_0 : Option (List Int)) (c0_1 : Int) (rec : (Option (List Int)) → (Option (List Int)) → Int → (Option (List Int)) → Bool → Int → Option ((Option (List Int)) × Int × Bool)) (hrec : ∀ {a1 : Option (List Int)} {c0_0 : Option (List Int)} {c0_1 : Int} {c0_2 : Option (List Int)} {o0_2 : Bool} {c0_3 : Int} {r}, rec a1 c0_0 c0_1 c0_2 o0_2 c0_3 = some r → callFn pr (X pr) 126 [.ptr 0 0, sl 1 vint a1] [.cells [(sl 1 vint c0_0, false), (.int .i64 c0_1, false), (sl 1 vint c0_2, o0_2), (.int .i64 c0_3, false)]] = some (.tup [], false, [.cells [(sl 1 vint c0_0, false), (.int .i64 c0_1, false), (sl 1 vint r.1, r.2.2), (.int .i64 r.2.1, false)]])) (s0 : Int × (Option (List Int)) × Int × Bool) (r) (h : s126_0 a1 c0_0 c0_1 rec s0 = some r) : stepO pr c126_0 (St126_0 a1 c0_0 c0_1 rec) (Ex126_0 a1 c0_0 c0_1 rec) s0 r := by
  unfold s126_0 at h
  rcases cond_split h with ⟨h36, h⟩ | ⟨h36, h⟩
  · rcases cond_split h with ⟨h37, h⟩ | ⟨h37, h⟩
    · obtain ⟨v38, h39, h⟩ := obind_some h
      have wh39 : callIso pr (X pr) 142 [sl 1 vint a1] = some (.list true 0 [], false) := WE142n h39
      obtain ⟨v40, h41, h⟩ := obind_some h
      have wh41 : callFn pr (X pr) 126 [.ptr 0 0, .list false 1 [.int .i64 s0.1]] [.cells [(sl 1 vint c0_0, false), (.int .i64 c0_1, false), (sl 1 vint s0.2.1, s0.2.2.2), (.int .i64 s0.2.2.1, false)]] = some (.tup [], false, [.cells [(sl 1 vint c0_0, false), (.int .i64 c0_1, false), (sl 1 vint v40.1, v40.2.2), (.int .i64 v40.2.1, false)]]) := hrec h41
      cases h
      exact stepO_in (st' := ⟨[(0, .ptr 0 0, false), (1, sl 1 vint a1, false), (48, .int .i64 c0_1, false), (49, .int .i64 (wrapF .i64 (s0.1 + 1)), false)], [.cells [(sl 1 vint c0_0, false), (.int .i64 c0_1, false), (sl 1 vint v40.1, v40.2.2), (.int .i64 v40.2.1, false)]]⟩) (by simp only [go_sem, seval, c126_0, St126_0, h36, h37, wh39, wh41] <;> rfl) (gc_same (Nat.le_refl _))
    · obtain ⟨v42, h43, h⟩ := obind_some h
      have wh43 : callIso pr (X pr) 142 [sl 1 vint a1] = some (sl 1 vint v42, true) := WE142 h43
      obtain ⟨v44, h45, h⟩ := obind_some h
      obtain ⟨v46, h47, h⟩ := obind_some h
      have wh47 : callFn pr (X pr) 126 [.ptr 0 0, sl 1 vint v44] [.cells [(sl 1 vint c0_0, false), (.int .i64 c0_1, false), (sl 1 vint s0.2.1, s0.2.2.2), (.int .i64 s0.2.2.1, false)]] = some (.tup [], false, [.cells [(sl 1 vint c0_0, false), (.int .i64 c0_1, false), (sl 1 vint v46.1, v46.2.2), (.int .i64 v46.2.1, false)]]) := hrec h47
      cases h
      exact stepO_in (st' := ⟨[(0, .ptr 0 0, false), (1, sl 1 vint a1, false), (48, .int .i64 c0_1, false), (49, .int .i64 (wrapF .i64 (s0.1 + 1)), false)], [.cells [(sl 1 vint c0_0, false), (.int .i64 c0_1, false), (sl 1 vint v46.1, v46.2.2), (.int .i64 v46.2.1, false)]]⟩) (by simp only [go_sem, seval, c126_0, St126_0, h36, h37, wh43, app_vint_O h45, wh47] <;> rfl) (gc_same (Nat.le_refl _))
  · cases h
    exact stepO_out (by simp only [go_sem, seval, c126_0, St126_0, h36, Ex126_0] <;> rfl)
theorem l126_0 (a1 : Option (List Int)) (c0_0 : Option (List Int)) (c0_1 : Int) (rec : (Option (List Int)) → (Option (List Int)) → Int → (Option (List Int)) → Bool → Int → Option ((Option (List Int)) × Int × Bool)) (hrec : ∀ {a1 : Option (List Int)} {c0_0 : Option (List Int)} {c0_1 : Int} {c0_2 : Option (List Int)} {o0_2 : Bool} {c0_3 : Int} {r}, rec a1 c0_0 c0_1 c0_2 o0_2 c0_3 = some r → callFn pr (X pr) 126 [.ptr 0 0, sl 1 vint a1] [.cells [(sl 1 vint c0_0, false), (.int .i64 c0_1, false), (sl 1 vint c0_2, o0_2), (.int .i64 c0_3, false)]] = some (.tup [], false, [.cells [(sl 1 vint c0_0, false), (.int .i64 c0_1, false), (sl 1 vint r.1, r.2.2), (.int .i64 r.2.1, false)]])) {s0 : Int × (Option (List Int)) × Int × Bool} {d} (h : itO (s126_0 a1 c0_0 c0_1 rec) s0 = some d) : X pr (.loop c126_0) (St126_0 a1 c0_0 c0_1 rec s0) = some (Ex126_0 a1 c0_0 c0_1 rec d) := X_itO (b126_0 a1 c0_0 c0_1 rec hrec) (fun d hh => by cases hh) h
noncomputable def s126_0b (a1 : Option (List Int)) (c0_0 : Option (List Int)) (c0_1 : Int) (rec : (Option (List Int)) → (Option (List Int)) → Int → (Option (List Int)) → Bool → Int → Option ((Option (List Int)) × Int × Bool)) (s0 : Int × (Option (List Int)) × Int × Bool) : Option ((Int × (Option (List Int)) × Int × Bool) ⊕ ((Int × (Option (List Int)) × Bool × Int))) :=
  cond (decide (s0.1 < c0_1))
   (cond a1.isNone
     (obind (E142n a1) fun v85 =>
      obind (rec (some [s0.1]) c0_0 c0_1 s0.2.1 s0.2.2.2 s0.2.2.1) fun v87 =>
      some (.inl (wrapF .i64 (s0.1 + 1), v87.1, v87.2.1, v87.2.2)))
     (obind (E142 a1) fun v89 =>
      obind (apO v89 [s0.1]) fun v91 =>
      obind (rec v91 c0_0 c0_1 s0.2.1 s0.2.2.2 s0.2.2.1) fun v93 =>
      some (.inl (wrapF .i64 (s0.1 + 1), v93.1, v93.2.1, v93.2.2))))
   (some (.inr (s0.1, s0.2.1, s0.2.2.2, s0.2.2.1)))
def St126_0b (a1 : Option (List Int)) (c0_0 : Option (List Int)) (c0_1 : Int) (rec : (Option (List Int)) → (Option (List Int)) → Int → (Option (List Int)) → Bool → Int → Option ((Option (List Int)) × Int × Bool)) (s0 : Int × (Option (List Int)) × Int × Bool) : ASt := ⟨[(0, .ptr 0 0, false), (1, sl 1 vint a1, false), (48, .int .i64 c0_1, false), (49, .int .i64 s0.1, false)], [.cells [(sl 1 vint c0_0, false), (.int .i64 c0_1, false), (sl 1 vint s0.2.1, s0.2.2.2), (.int .i64 s0.2.2.1, false)]]⟩
def Ex126_0b (a1 : Option (List Int)) (c0_0 : Option (List Int)) (c0_1 : Int) (rec : (Option (List Int)) → (Option (List Int)) → Int → (Option (List Int)) → Bool → Int → Option ((Option (List Int)) × Int × Bool)) (d : (Int × (Option (List Int)) × Bool × Int)) : AExit × ASt := (.exit 0, ⟨[(0, .ptr 0 0, false), (1, sl 1 vint a1, false), (48, .int .i64 c0_1, false), (49, .int .i64 d.1, false), (50, .bool false, false)], [.cells [(sl 1 vint c0_0, false), (.int .i64 c0_1, false), (sl 1 vint d.2.1, d.2.2.1), (.int .i64 d.2.2.2, false)]]⟩)
theorem b126_0b (a1 : Option (List Int)) (c0_0 : Option (List Int)) (c0_1 : Int) (rec : (Option (List Int)) → (Option (List Int)) → Int → (Option (List Int)) → Bool → Int → Option ((Option (List Int)) × Int × Bool)) (hrec : ∀ {a1 : Option (List Int)} {c0_0 : Option (List Int)} {c0_1 : Int} {c0_2 : Option (List Int)} {o0_2 : Bool} {c0_3 : Int} {r}, rec a1 c0_0 c0_1 c0_2 o0_2 c0_3 = some r → callFn pr (X pr) 126 [.ptr 0 0, sl 1 vint a1] [.cells [(sl 1 vint c0_0, false), (.int .i64 c0_1, false), (sl 1 vint c0_2, o0_2), (.int .i64 c0_3, false)]] = some (.tup [], false, [.cells [(sl 1 vint c0_0, false), (.int .i64 c0_1, false), (sl 1 vint r.1, r.2.2), (.int .i64 r.2.1, false)]])) (s0 : Int × (Option (List Int)) × Int × Bool) (r) (h : s126_0b a1 c0_0 c0_1 rec s0 = some r) : stepO pr c126_0 (St126_0b a1 c0_0 c0_1 rec) (Ex126_0b a1 c0_0 c0_1 rec) s0 r := by
  unfold s126_0b at h
  rcases cond_split h with ⟨h83, h⟩ | ⟨h83, h⟩
  · rcases cond_split h with ⟨h84, h⟩ | ⟨h84, h⟩
    · obtain ⟨v85, h86, h⟩ := obind_some h
      have wh86 : callIso pr (X pr) 142 [sl 1 vint a1] = some (.list true 0 [], false) := WE142n h86
      obtain ⟨v87, h88, h⟩ := obind_some h
      have wh88 : callFn pr (X pr) 126 [.ptr 0 0, .list false 1 [.int .i64 s0.1]] [.cells [(sl 1 vint c0_0, false), (.int .i64 c0_1, false), (sl 1 vint s0.2.1, s0.2.2.2), (.int .i64 s0.2.2.1, false)]] = some (.tup [], false, [.cells [(sl 1 vint c0_0, false), (.int .i64 c0_1, false), (sl 1 vint v87.1, v87.2.2), (.int .i64 v87.2.1, false)]]) := hrec h88
      cases h
      exact stepO_in (st' := ⟨[(0, .ptr 0 0, false), (1, sl 1 vint a1, false), (48, .int .i64 c0_1, false), (49, .int .i64 (wrapF .i64 (s0.1 + 1)), false)], [.cells [(sl 1 vint c0_0, false), (.int .i64 c0_1, false), (sl 1 vint v87.1, v87.2.2), (.int .i64 v87.2.1, false)]]⟩) (by simp only [go_sem, seval, c126_0, St126_0b, h83, h84, wh86, wh88] <;> rfl) (gc_same (Nat.le_refl _))
    · obtain ⟨v89, h90, h⟩ := obind_some h
      have wh90 : callIso pr (X pr) 142 [sl 1 vint a1] = some (sl 1 vint v89, true) := WE142 h90
      obtain ⟨v91, h92, h⟩ := obind_some h
      obtain ⟨v93, h94, h⟩ := obind_some h
      have wh94 : callFn pr (X pr) 126 [.ptr 0 0, sl 1 vint v91] [.cells [(sl 1 vint c0_0, false), (.int .i64 c0_1, false), (sl 1 vint s0.2.1, s0.2.2.2), (.int .i64 s0.2.2.1, false)]] = some (.tup [], false, [.cells [(sl 1 vint c0_0, false), (.int .i64 c0_1, false), (sl 1 vint v93.1, v93.2.2), (.int .i64 v93.2.1, false)]]) := hrec h94
      cases h
      exact stepO_in (st' := ⟨[(0, .ptr 0 0, false), (1, sl 1 vint a1, false), (48, .int .i64 c0_1, false), (49, .int .i64 (wrapF .i64 (s0.1 + 1)), false)], [.cells [(sl 1 vint c0_0, false), (.int .i64 c0_1, false), (sl 1 vint v93.1, v93.2.2), (.int .i64 v93.2.1, false)]]⟩) (by simp only [go_sem, seval, c126_0, St126_0b, h83, h84, wh90, app_vint_O h92, wh94] <;> rfl) (gc_same (Nat.le_refl _))
  · cases h
    exact stepO_out (by simp only [go_sem, seval, c126_0, St126_0b, h83, Ex126_0b] <;> rfl)
theorem l126_0b (a1 : Option (List Int)) (c0_0 : Option (List Int)) (c0_1 : Int) (rec : (Option (List Int)) → (Option (List Int)) → Int → (Option (List Int)) → Bool → Int → Option ((Option (List Int)) × Int × Bool)) (hrec : ∀ {a1 : Option (List Int)} {c0_0 : Option (List Int)} {c0_1 : Int} {c0_2 : Option (List Int)} {o0_2 : Bool} {c0_3 : Int} {r}, rec a1 c0_0 c0_1 c0_2 o0_2 c0_3 = some r → callFn pr (X pr) 126 [.ptr 0 0, sl 1 vint a1] [.cells [(sl 1 vint c0_0, false), (.int .i64 c0_1, false), (sl 1 vint c0_2, o0_2), (.int .i64 c0_3, false)]] = some (.tup [], false, [.cells [(sl 1 vint c0_0, false), (.int .i64 c0_1, false), (sl 1 vint r.1, r.2.2), (.int .i64 r.2.1, false)]])) {s0 : Int × (Option (List Int)) × Int × Bool} {d} (h : itO (s126_0b a1 c0_0 c0_1 rec) s0 = some d) : X pr (.loop c126_0) (St126_0b a1 c0_0 c0_1 rec s0) = some (Ex126_0b a1 c0_0 c0_1 rec d) := X_itO (b126_0b a1 c0_0 c0_1 rec hrec) (fun d hh => by cases hh) h
noncomputable def F126 (rec : (Option (List Int)) → (Option (List Int)) → Int → (Option (List Int)) → Bool → Int → Option ((Option (List Int)) × Int × Bool)) (a1 : Option (List Int)) (c0_0 : Option (List Int)) (c0_1 : Int) (c0_2 : Option (List Int)) (o0_2 : Bool) (c0_3 : Int) : Option ((Option (List Int)) × Int × Bool) :=
  cond c0_2.isNone
   (cond (decide (((a1.getD []).length : Int) = ((c0_0.getD []).length : Int)))
     (cond a1.isNone
       (obind (E142n a1) fun v4 =>
        obind (f129 c0_0 a1) fun v6 =>
        some (none, v6, false))
       (obind (E142 a1) fun v8 =>
        obind (f129 c0_0 a1) fun v10 =>
        some (v8, v10, true)))
     (obind (itO (s126_0 a1 c0_0 c0_1 rec) (0, c0_2, c0_3, o0_2)) fun d48 =>
      some (d48.2.1, d48.2.2.2, d48.2.2.1)))
   (obind (f129 c0_0 a1) fun v50 =>
    cond (decide (c0_3 ≤ v50))
     (some (c0_2, c0_3, o0_2))
     (cond (decide (((a1.getD []).length : Int) = ((c0_0.getD []).length : Int)))
       (cond a1.isNone
         (obind (E142n a1) fun v55 =>
          some (none, v50, false))
         (obind (E142 a1) fun v57 =>
          some (v57, v50, true)))
       (obind (itO (s126_0b a1 c0_0 c0_1 rec) (0, c0_2, c0_3, o0_2)) fun d95 =>
        some (d95.2.1, d95.2.2.2, d95.2.2.1))))
theorem WF126 {rec : (Option (List Int)) → (Option (List Int)) → Int → (Option (List Int)) → Bool → Int → Option ((Option (List Int)) × Int × Bool)} (hrec : ∀ {a1 : Option (List Int)} {c0_0 : Option (List Int)} {c0_1 : Int} {c0_2 : Option (List Int)} {o0_2 : Bool} {c0_3 : Int} {r}, rec a1 c0_0 c0_1 c0_2 o0_2 c0_3 = some r → callFn pr (X pr) 126 [.ptr 0 0, sl 1 vint a1] [.cells [(sl 1 vint c0_0, false), (.int .i64 c0_1, false), (sl 1 vint c0_2, o0_2), (.int .i64 c0_3, false)]] = some (.tup [], false, [.cells [(sl 1 vint c0_0, false), (.int .i64 c0_1, false), (sl 1 vint r.1, r.2.2), (.int .i64 r.2.1, false)]])) {a1 : Option (List Int)} {c0_0 : Option (List Int)} {c0_1 : Int} {c0_2 : Option (List Int)} {o0_2 : Bool} {c0_3 : Int} {r} (h : F126 rec a1 c0_0 c0_1 c0_2 o0_2 c0_3 = some r) : callFn pr (X pr) 126 [.ptr 0 0, sl 1 vint a1] [.cells [(sl 1 vint c0_0, false), (.int .i64 c0_1, false), (sl 1 vint c0_2, o0_2), (.int .i64 c0_3, false)]] = some (.tup [], false, [.cells [(sl 1 vint c0_0, false), (.int .i64 c0_1, false), (sl 1 vint r.1, r.2.2), (.int .i64 r.2.1, false)]]) := by
  unfold F126 at h
  rcases cond_split h with ⟨h1, h⟩ | ⟨h1, h⟩
  · rcases cond_split h with ⟨h2, h⟩ | ⟨h2, h⟩
    · rcases cond_split h with ⟨h3, h⟩ | ⟨h3, h⟩
      · obtain ⟨v4, h5, h⟩ := obind_some h
        have wh5 : callIso pr (X pr) 142 [sl 1 vint a1] = some (.list true 0 [], false) := WE142n h5
        obtain ⟨v6, h7, h⟩ := obind_some h
        have wh7 : callIso pr (X pr) 129 [sl 1 vint c0_0, sl 1 vint a1] = some (.int .i64 v6, false) := W129 h7
        have hr : (none, v6, false) = r := Option.some.inj h
        subst hr
        rw [callFn_at (show pr.fns 126 = some c126 from rfl) (by simp)]
        simp only [go_sem, seval, c126, h1, h2, h3, wh5, wh7] <;> rfl
      · obtain ⟨v8, h9, h⟩ := obind_some h
        have wh9 : callIso pr (X pr) 142 [sl 1 vint a1] = some (sl 1 vint v8, true) := WE142 h9
        obtain ⟨v10, h11, h⟩ := obind_some h
        have wh11 : callIso pr (X pr) 129 [sl 1 vint c0_0, sl 1 vint a1] = some (.int .i64 v10, false) := W129 h11
        have hr : (v8, v10, true) = r := Option.some.inj h
        subst hr
        rw [callFn_at (show pr.fns 126 = some c126 from rfl) (by simp)]
        simp only [go_sem, seval, c126, h1, h2, h3, wh9, wh11] <;> rfl
    · obtain ⟨d48, h49, h⟩ := obind_some h
      have wh49 : X pr (.loop c126_0) ⟨[(0, .ptr 0 0, false), (1, sl 1 vint a1, false), (48, .int .i64 c0_1, false), (49, .int .i64 0, false)], [.cells [(sl 1 vint c0_0, false), (.int .i64 c0_1, false), (sl 1 vint c0_2, o0_2), (.int .i64 c0_3, false)]]⟩ = some (.exit 0, ⟨[(0, .ptr 0 0, false), (1, sl 1 vint a1, false), (48, .int .i64 c0_1, false), (49, .int .i64 d48.1, false), (50, .bool false, false)], [.cells [(sl 1 vint c0_0, false), (.int .i64 c0_1, false), (sl 1 vint d48.2.1, d48.2.2.1), (.int .i64 d48.2.2.2, false)]]⟩) := l126_0 a1 c0_0 c0_1 rec hrec h49
      have hr : (d48.2.1, d48.2.2.2, d48.2.2.1) = r := Option.some.inj h
      subst hr
      rw [callFn_at (show pr.fns 126 = some c126 from rfl) (by simp)]
      simp only [go_sem, seval, c126, h1, h2, wh49] <;> rfl
  · obtain ⟨v50, h51, h⟩ := obind_some h
    have wh51 : callIso pr (X pr) 129 [sl 1 vint c0_0, sl 1 vint a1] = some (.int .i64 v50, false) := W129 h51
    rcases cond_split h with ⟨h52, h⟩ | ⟨h52, h⟩
    · have hr : (c0_2, c0_3, o0_2) = r := Option.some.inj h
      subst hr
      rw [callFn_at (show pr.fns 126 = some c126 from rfl) (by simp)]
      simp only [go_sem, seval, c126, h1, wh51, h52] <;> rfl
    · rcases cond_split h with ⟨h53, h⟩ | ⟨h53, h⟩
      · rcases cond_split h with ⟨h54, h⟩ | ⟨h54, h⟩
        · obtain ⟨v55, h56, h⟩ := obind_some h
          have wh56 : callIso pr (X pr) 142 [sl 1 vint a1] = some (.list true 0 [], false) := WE142n h56
          have hr : (none, v50, false) = r := Option.some.inj h
          subst hr
          rw [callFn_at (show pr.fns 126 = some c126 from rfl) (by simp)]
          simp only [go_sem, seval, c126, h1, wh51, h52, h53, h54, wh56] <;> rfl
        · obtain ⟨v57, h58, h⟩ := obind_some h
          have wh58 : callIso pr (X pr) 142 [sl 1 vint a1] = some (sl 1 vint v57, true) := WE142 h58
          have hr : (v57, v50, true) = r := Option.some.inj h
          subst hr
          rw [callFn_at (show pr.fns 126 = some c126 from rfl) (by simp)]
          simp only [go_sem, seval, c126, h1, wh51, h52, h53, h54, wh58] <;> rfl
      · obtain ⟨d95, h96, h⟩ := obind_some h
        have wh96 : X pr (.loop c126_0) ⟨[(0, .ptr 0 0, false), (1, sl 1 vint a1, false), (48, .int .i64 c0_1, false), (49, .int .i64 0, false)], [.cells [(sl 1 vint c0_0, false), (.int .i64 c0_1, false), (sl 1 vint c0_2, o0_2), (.int .i64 c0_3, false)]]⟩ = some (.exit 0, ⟨[(0, .ptr 0 0, false), (1, sl 1 vint a1, false), (48, .int .i64 c0_1, false), (49, .int .i64 d95.1, false), (50, .bool false, false)], [.cells [(sl 1 vint c0_0, false), (.int .i64 c0_1, false), (sl 1 vint d95.2.1, d95.2.2.1), (.int .i64 d95.2.2.2, false)]]⟩) := l126_0b a1 c0_0 c0_1 rec hrec h96
        have hr : (d95.2.1, d95.2.2.2, d95.2.2.1) = r := Option.some.inj h
        subst hr
        rw [callFn_at (show pr.fns 126 = some c126 from rfl) (by simp)]
        simp only [go_sem, seval, c126, h1, wh51, h52, h53, wh96] <;> rfl
noncomputable def f126 : Nat → (Option (List Int)) → (Option (List Int)) → Int → (Option (List Int)) → Bool → Int → Option ((Option (List Int)) × Int × Bool)
  | 0 => fun _ _ _ _ _ _ => none
  | n + 1 => F126 (f126 n)
theorem W126 : ∀ (n : Nat) {a1 : Option (List Int)} {c0_0 : Option (List Int)} {c0_1 : Int} {c0_2 : Option (List Int)} {o0_2 : Bool} {c0_3 : Int} {r} (h : f126 n a1 c0_0 c0_1 c0_2 o0_2 c0_3 = some r), callFn pr (X pr) 126 [.ptr 0 0, sl 1 vint a1] [.cells [(sl 1 vint c0_0, false), (.int .i64 c0_1, false), (sl 1 vint c0_2, o0_2), (.int .i64 c0_3, false)]] = some (.tup [], false, [.cells [(sl 1 vint c0_0, false), (.int .i64 c0_1, false), (sl 1 vint r.1, r.2.2), (.int .i64 r.2.1, false)]])
  | 0, _, _, _, _, _, _, _, h => by cases h
  | n + 1, _, _, _, _, _, _, _, h => WF126 (W126 n) h
noncomputable def f77 (a0 : Option (List Int)) (a1 : Int) : Option Int :=
  obind (E24 (decide (8 < ((a0.getD []).length : Int))) 5) fun v1 =>
  obind (E82 a0 1 100000) fun v3 =>
  obind (E23 a1 1 4) fun v5 =>
  obind (E94 (some [v1, v3, v5])) fun v7 =>
  some v7
theorem W77 {a0 : Option (List Int)} {a1 : Int} {r} (h : f77 a0 a1 = some r) : callIso pr (X pr) 77 [sl 1 vint a0, .int .i64 a1] = some (.int .i64 r, false) := by
  unfold f77 at h
  obtain ⟨v1, h2, h⟩ := obind_some h
  have wh2 : callIso pr (X pr) 96 [.bool (decide (8 < ((a0.getD []).length : Int))), .int .i64 5] = some (.int .i64 v1, false) := WE96 h2
  obtain ⟨v3, h4, h⟩ := obind_some h
  have wh4 : callIso pr (X pr) 82 [sl 1 vint a0, .int .i64 1, .int .i64 100000] = some (.int .i64 v3, false) := WE82 h4
  obtain ⟨v5, h6, h⟩ := obind_some h
  have wh6 : callIso pr (X pr) 23 [.int .i64 a1, .int .i64 1, .int .i64 4] = some (.int .i64 v5, false) := WE23 h6
  obtain ⟨v7, h8, h⟩ := obind_some h
  have wh8 : callIso pr (X pr) 94 [.list false 1 [.int .i64 v1, .int .i64 v3, .int .i64 v5]] = some (.int .i64 v7, false) := WE94 h8
  have hr : v7 = r := Option.some.inj h
  subst hr
  have this : ∃ hh, callFn pr (X pr) 77 [sl 1 vint a0, .int .i64 a1] [] = some (.int .i64 v7, false, hh) := by
    rw [callFn_at (show pr.fns 77 = some c77 from rfl) (by simp)]
    simp only [go_sem, seval, c77, wh2, wh4, wh6, wh8]
    exact ⟨_, rfl⟩
  obtain ⟨hh, this⟩ := this
  exact callIso_of rfl this (by first | rfl | simp only [go_sem, seval]) (by first | rfl | simp only [go_sem, seval])
noncomputable def s87_0 (a0 : Option (List Int)) (s0 : Int) : Option (Int ⊕ (Int ⊕ Int)) :=
  cond (decide (s0 < ((a0.getD []).length : Int)))
   (obind (idxO (a0.getD []) s0) fun v10 =>
    cond (decide (v10 = 0))
     (some (.inl (wrapF .i64 (s0 + 1))))
     (some (.inr (.inl v10))))
   (some (.inr (.inr s0)))
def St87_0 (a0 : Option (List Int)) (s0 : Int) : ASt := ⟨[(5, sl 1 vint a0, false), (6, .int .i64 ((a0.getD []).length : Int), false), (7, .int .i64 s0, false)], []⟩
def Ex87_0 (a0 : Option (List Int)) : Int ⊕ Int → AExit × ASt
  | .inl d => (.ret, ⟨[(2, .int .i64 d, false)], []⟩)
  | .inr d => (.exit 0, ⟨[(5, sl 1 vint a0, false), (6, .int .i64 ((a0.getD []).length : Int), false), (7, .int .i64 d, false), (8, .bool false, false)], []⟩)
theorem b87_0 (a0 : Option (List Int)) (s0 : Int) (r) (h : s87_0 a0 s0 = some r) : stepO pr c87_0 (St87_0 a0) (Ex87_0 a0) s0 r := by
  unfold s87_0 at h
  rcases cond_split h with ⟨h9, h⟩ | ⟨h9, h⟩
  · obtain ⟨v10, h11, h⟩ := obind_some h
    rcases cond_split h with ⟨h12, h⟩ | ⟨h12, h⟩
    · cases h
      exact stepO_in (st' := ⟨[(5, sl 1 vint a0, false), (6, .int .i64 ((a0.getD []).length : Int), false), (7, .int .i64 (wrapF .i64 (s0 + 1)), false)], []⟩) (by simp only [go_sem, seval, c87_0, St87_0, h9, idxR_O h11, h12] <;> rfl) (gc_same (Nat.le_refl _))
    · cases h
      exact stepO_out (by simp only [go_sem, seval, c87_0, St87_0, h9, idxR_O h11, h12, Ex87_0] <;> rfl)
  · cases h
    exact stepO_out (by simp only [go_sem, seval, c87_0, St87_0, h9, Ex87_0] <;> rfl)
theorem l87_0 (a0 : Option (List Int)) {s0 : Int} {d} (h : itO (s87_0 a0) s0 = some d) : X pr (.loop c87_0) (St87_0 a0 s0) = some (Ex87_0 a0 d) := X_itO (b87_0 a0) (fun d => by rcases d with d|d <;> (intro hh; cases hh)) h
noncomputable def f87 (a0 : Option (List Int)) : Option Int :=
  obind (itO (s87_0 a0) 0) fun d13 => match d13 with
    | .inl d15 =>
      some d15
    | .inr d16 =>
      some 0
theorem W87 {a0 : Option (List Int)} {r} (h : f87 a0 = some r) : callIso pr (X pr) 87 [sl 1 vint a0] = some (.int .i64 r, false) := by
  unfold f87 at h
  obtain ⟨d13, h14, h⟩ := obind_some h
  rcases d13 with d15 | d16
  · have wh14 : X pr (.loop c87_0) ⟨[(5, sl 1 vint a0, false), (6, .int .i64 ((a0.getD []).length : Int), false), (7, .int .i64 0, false)], []⟩ = some (.ret, ⟨[(2, .int .i64 d15, false)], []⟩) := l87_0 a0 h14
    have hr : d15 = r := Option.some.inj h
    subst hr
    have this : ∃ hh, callFn pr (X pr) 87 [sl 1 vint a0] [] = some (.int .i64 d15, false, hh) := by
      rw [callFn_at (show pr.fns 87 = some c87 from rfl) (by simp)]
      simp only [go_sem, seval, c87, wh14]
      exact ⟨_, rfl⟩
    obtain ⟨hh, this⟩ := this
    exact callIso_of rfl this (by first | rfl | simp only [go_sem, seval]) (by first | rfl | simp only [go_sem, seval])
  · have wh14 : X pr (.loop c87_0) ⟨[(5, sl 1 vint a0, false), (6, .int .i64 ((a0.getD []).length : Int), false), (7, .int .i64 0, false)], []⟩ = some (.exit 0, ⟨[(5, sl 1 vint a0, false), (6, .int .i64 ((a0.getD []).length : Int), false), (7, .int .i64 d16, false), (8, .bool false, false)], []⟩) := l87_0 a0 h14
    have hr : 0 = r := Option.some.inj h
    subst hr
    have this : ∃ hh, callFn pr (X pr) 87 [sl 1 vint a0] [] = some (.int .i64 0, false, hh) := by
      rw [callFn_at (show pr.fns 87 = some c87 from rfl) (by simp)]
      simp only [go_sem, seval, c87, wh14]
      exact ⟨_, rfl⟩
    obtain ⟨hh, this⟩ := this
    exact callIso_of rfl this (by first | rfl | simp only [go_sem, seval]) (by first | rfl | simp only [go_sem, seval])
noncomputable def f147 (a0 : Int) : Option Int :=
  obind (E23 a0 1 100000) fun v1 =>
  some v1
theorem W147 (hp : Heap) {a0 : Int} {r} (h : f147 a0 = some r) : callFn pr (X pr) 147 [.int .i64 a0] hp = some (.int .i64 r, false, hp) := by
  unfold f147 at h
  obtain ⟨v1, h2, h⟩ := obind_some h
  have wh2 : callIso pr (X pr) 88 [.int .i64 a0, .int .i64 1, .int .i64 100000] = some (.int .i64 v1, false) := WE88 h2
  have hr : v1 = r := Option.some.inj h
  subst hr
  rw [callFn_at (show pr.fns 147 = some c147 from rfl) (by simp)]
  simp only [go_sem, seval, c147, wh2] <;> rfl
noncomputable def s135_0 (a0 : Option (List Int)) (s0 : (Option (List Int)) × Int × Bool) : Option (((Option (List Int)) × Int × Bool) ⊕ (((Option (List Int)) × Bool × Int))) :=
  cond (decide (s0.2.1 < ((a0.getD []).length : Int)))
   (obind (idxO (a0.getD []) s0.2.1) fun v18 =>
    obind (f147 v18) fun v20 =>
    cond s0.2.2
     (obind (apO s0.1 [v20]) fun v23 =>
      some (.inl (v23, wrapF .i64 (s0.2.1 + 1), true)))
     (cond s0.1.isNone
       (obind (apO s0.1 [v20]) fun v26 =>
        some (.inl (v26, wrapF .i64 (s0.2.1 + 1), true)))
       (none)))
   (some (.inr (s0.1, s0.2.2, s0.2.1)))
def St135_0 (a0 : Option (List Int)) (s0 : (Option (List Int)) × Int × Bool) : ASt := ⟨[(1, .fn (.func 147) [] [], false), (5, sl 1 vint s0.1, s0.2.2), (8, sl 1 vint a0, false), (9, .int .i64 ((a0.getD []).length : Int), false), (10, .int .i64 s0.2.1, false)], []⟩
def Ex135_0 (a0 : Option (List Int)) (d : ((Option (List Int)) × Bool × Int)) : AExit × ASt := (.exit 0, ⟨[(1, .fn (.func 147) [] [], false), (5, sl 1 vint d.1, d.2.1), (8, sl 1 vint a0, false), (9, .int .i64 ((a0.getD []).length : Int), false), (10, .int .i64 d.2.2, false), (11, .bool false, false)], []⟩)
theorem b135_0 (a0 : Option (List Int)) (s0 : (Option (List Int)) × Int × Bool) (r) (h : s135_0 a0 s0 = some r) : stepO pr c135_0 (St135_0 a0) (Ex135_0 a0) s0 r := by
  unfold s135_0 at h
  rcases cond_split h with ⟨h17, h⟩ | ⟨h17, h⟩
  · obtain ⟨v18, h19, h⟩ := obind_some h
    obtain ⟨v20, h21, h⟩ := obind_some h
    have wh21 : callFn pr (X pr) 147 [.int .i64 v18] [] = some (.int .i64 v20, false, []) := W147 [] h21
    rcases cond_split h with ⟨h22, h⟩ | ⟨h22, h⟩
    · obtain ⟨v23, h24, h⟩ := obind_some h
      cases h
      exact stepO_in (st' := ⟨[(1, .fn (.func 147) [] [], false), (5, sl 1 vint v23, true), (8, sl 1 vint a0, false), (9, .int .i64 ((a0.getD []).length : Int), false), (10, .int .i64 (wrapF .i64 (s0.2.1 + 1)), false)], []⟩) (by simp only [go_sem, seval, c135_0, St135_0, h17, idxR_O h19, wh21, h22, app_vint_O h24] <;> rfl) (gc_same (Nat.le_refl _))
    · rcases cond_split h with ⟨h25, h⟩ | ⟨h25, h⟩
      · obtain ⟨v26, h27, h⟩ := obind_some h
        cases h
        exact stepO_in (st' := ⟨[(1, .fn (.func 147) [] [], false), (5, sl 1 vint v26, true), (8, sl 1 vint a0, false), (9, .int .i64 ((a0.getD []).length : Int), false), (10, .int .i64 (wrapF .i64 (s0.2.1 + 1)), false)], []⟩) (by simp only [go_sem, seval, c135_0, St135_0, h17, idxR_O h19, wh21, h22, h25, app_vint_N h27 h25] <;> rfl) (gc_same (Nat.le_refl _))
      · cases h
  · cases h
    exact stepO_out (by simp only [go_sem, seval, c135_0, St135_0, h17, Ex135_0] <;> rfl)
theorem l135_0 (a0 : Option (List Int)) {s0 : (Option (List Int)) × Int × Bool} {d} (h : itO (s135_0 a0) s0 = some d) : X pr (.loop c135_0) (St135_0 a0 s0) = some (Ex135_0 a0 d) := X_itO (b135_0 a0) (fun d hh => by cases hh) h
noncomputable def f135 (a0 : Option (List Int)) : Option ((Option (List Int)) × Bool) :=
  obind (itO (s135_0 a0) (none, 0, false)) fun d28 =>
  some (d28.1, d28.2.1)
theorem W135 {a0 : Option (List Int)} {r} (h : f135 a0 = some r) : callIso pr (X pr) 135 [sl 1 vint a0, .fn (.func 147) [] []] = some (sl 1 vint r.1, r.2) := by
  unfold f135 at h
  obtain ⟨d28, h29, h⟩ := obind_some h
  have wh29 : X pr (.loop c135_0) ⟨[(1, .fn (.func 147) [] [], false), (5, .list true 0 [], false), (8, sl 1 vint a0, false), (9, .int .i64 ((a0.getD []).length : Int), false), (10, .int .i64 0, false)], []⟩ = some (.exit 0, ⟨[(1, .fn (.func 147) [] [], false), (5, sl 1 vint d28.1, d28.2.1), (8, sl 1 vint a0, false), (9, .int .i64 ((a0.getD []).length : Int), false), (10, .int .i64 d28.2.2, false), (11, .bool false, false)], []⟩) := l135_0 a0 h29
  have hr : (d28.1, d28.2.1) = r := Option.some.inj h
  subst hr
  have this : ∃ hh, callFn pr (X pr) 135 [sl 1 vint a0, .fn (.func 147) [] []] [] = some (sl 1 vint d28.1, d28.2.1, hh) := by
    rw [callFn_at (show pr.fns 135 = some c135 from rfl) (by simp)]
    simp only [go_sem, seval, c135, wh29]
    exact ⟨_, rfl⟩
  obtain ⟨hh, this⟩ := this
  exact callIso_of_dyn rfl this (by first | rfl | simp only [go_sem, seval]) (by first | rfl | simp only [go_sem, seval]) (by first | rfl | simp only [go_sem, seval])
noncomputable def f125 (a0 : Option (List Int)) (a1 : Int) : Option Int :=
  obind (E24 (decide (8 < ((a0.getD []).length : Int))) 5) fun v1 =>
  obind (f135 a0) fun v3 =>
  obind (f87 v3.1) fun v5 =>
  obind (E23 a1 1 4) fun v7 =>
  obind (f87 (some [v1, v5, v7])) fun v9 =>
  some v9
theorem W125 {a0 : Option (List Int)} {a1 : Int} {r} (h : f125 a0 a1 = some r) : callIso pr (X pr) 125 [sl 1 vint a0, .int .i64 a1] = some (.int .i64 r, false) := by
  unfold f125 at h
  obtain ⟨v1, h2, h⟩ := obind_some h
  have wh2 : callIso pr (X pr) 89 [.bool (decide (8 < ((a0.getD []).length : Int))), .int .i64 5] = some (.int .i64 v1, false) := WE89 h2
  obtain ⟨v3, h4, h⟩ := obind_some h
  have wh4 : callIso pr (X pr) 135 [sl 1 vint a0, .fn (.func 147) [] []] = some (sl 1 vint v3.1, v3.2) := W135 h4
  obtain ⟨v5, h6, h⟩ := obind_some h
  have wh6 : callIso pr (X pr) 87 [sl 1 vint v3.1] = some (.int .i64 v5, false) := W87 h6
  obtain ⟨v7, h8, h⟩ := obind_some h
  have wh8 : callIso pr (X pr) 88 [.int .i64 a1, .int .i64 1, .int .i64 4] = some (.int .i64 v7, false) := WE88 h8
  obtain ⟨v9, h10, h⟩ := obind_some h
  have wh10 : callIso pr (X pr) 87 [.list false 1 [.int .i64 v1, .int .i64 v5, .int .i64 v7]] = some (.int .i64 v9, false) := W87 h10
  have hr : v9 = r := Option.some.inj h
  subst hr
  have this : ∃ hh, callFn pr (X pr) 125 [sl 1 vint a0, .int .i64 a1] [] = some (.int .i64 v9, false, hh) := by
    rw [callFn_at (show pr.fns 125 = some c125 from rfl) (by simp)]
    simp only [go_sem, seval, c125, wh2, wh4, wh6, wh8, wh10]
    exact ⟨_, rfl⟩
  obtain ⟨hh, this⟩ := this
  exact callIso_of rfl this (by first | rfl | simp only [go_sem, seval]) (by first | rfl | simp only [go_sem, seval])
end Go.Z
