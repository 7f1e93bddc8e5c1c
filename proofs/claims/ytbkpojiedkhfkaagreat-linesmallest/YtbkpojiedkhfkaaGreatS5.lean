/-
  The smallest plan: its law holds of the functions that mirror the runs.
-/
import Derived.Test.YtbkpojiedkhfkaaGreatG2
set_option linter.unusedVariables false
set_option linter.unusedSimpArgs false
set_option maxRecDepth 100000
set_option linter.unusedSimpArgs false
namespace Go.Z
open Go Go.Abs
theorem s51_1_eq (l g b : Int) (m : Most) (n : Int) : s51_1 l g b m n = s53_1 l g b m n := by
  funext i
  unfold s51_1 s53_1
  cases decide (i < n) with
  | false => rfl
  | true =>
    simp only [cond_true]
    cases E48 ⟨l, n, i⟩ g b with
    | none => rfl
    | some v =>
      simp only [obind_at, E110, aboveB]
      by_cases h1 : wrapF .i64 (m.x0 * v.d0) < wrapF .i64 (v.x0 * m.d0)
      · have h1' : ¬ wrapF .i64 (v.x0 * m.d0) ≤ wrapF .i64 (m.x0 * v.d0) := by omega
        simp only [h1, h1', decide_true, decide_false, cond_true, cond_false]
      · have h1' : wrapF .i64 (v.x0 * m.d0) ≤ wrapF .i64 (m.x0 * v.d0) := by omega
        simp only [h1, h1', decide_true, decide_false, cond_true, cond_false]
        by_cases h2 : wrapF .i64 (m.x1 * v.d1) < wrapF .i64 (v.x1 * m.d1)
        · have h2' : ¬ wrapF .i64 (v.x1 * m.d1) ≤ wrapF .i64 (m.x1 * v.d1) := by omega
          simp only [h2, h2', decide_true, decide_false, cond_true, cond_false]
        · have h2' : wrapF .i64 (v.x1 * m.d1) ≤ wrapF .i64 (m.x1 * v.d1) := by omega
          simp only [h2, h2', decide_true, decide_false, cond_true, cond_false]
theorem s51_0_eq (l g b : Int) (m : Most) : s51_0 l g b m = s53_0 l g b m := by
  funext n
  unfold s51_0 s53_0
  rw [s51_1_eq]
theorem in53 {l g b : Int} (m : Most) {n : Int} (hl2 : l ≤ 30) (hn1 : 1 ≤ n) (hnl : n ≤ l) (hg0 : 0 ≤ g) (hg : g ≤ l) (hb0 : 0 ≤ b) (hb : b ≤ l) : ∃ d, itO (s53_1 l g b m n) 0 = some d ∧ True :=
  itO_total (fun i => 0 ≤ i ∧ i ≤ n) (fun _ => True) (fun i => (n - i).toNat) (fun i hi => by
    unfold s53_1
    by_cases h : i < n
    · have hw : wrapF .i64 (i + 1) = i + 1 := wrapF_i64 (by omega) (by omega)
      have h48 : E48 ⟨l, n, i⟩ g b = some (risksV ⟨l, n, i⟩ g b) := exO_of (show PlanN l.toNat n.toNat i.toNat ∧ 0 ≤ l ∧ 0 ≤ n ∧ 0 ≤ i ∧ 0 ≤ g ∧ g ≤ l ∧ 0 ≤ b ∧ b ≤ l from ⟨⟨by omega, by omega, by omega, by omega, by omega⟩, by omega, by omega, hi.1, hg0, hg, hb0, hb⟩)
      simp only [h, decide_true, cond_true, h48, obind_at, hw]
      have key : ∃ s', some (Sum.inl (i + 1)) = some (Sum.inl (β := (Int × Int × Int × Int × Int × Int) ⊕ Int) s') ∧ (0 ≤ s' ∧ s' ≤ n) ∧ (n - s').toNat < (n - i).toNat := ⟨i + 1, rfl, ⟨by omega, by omega⟩, by omega⟩
      cases decide (wrapF .i64 ((risksV ⟨l, n, i⟩ g b).x0 * m.d0) ≤ wrapF .i64 (m.x0 * (risksV ⟨l, n, i⟩ g b).d0)) with
      | false => exact .inl key
      | true =>
        cases decide (wrapF .i64 ((risksV ⟨l, n, i⟩ g b).x1 * m.d1) ≤ wrapF .i64 (m.x1 * (risksV ⟨l, n, i⟩ g b).d1)) with
        | false => exact .inl key
        | true => exact .inr ⟨_, rfl, trivial⟩
    · simp only [h, decide_false, cond_false]
      exact .inr ⟨_, rfl, trivial⟩) _ _ (Nat.le_refl _) ⟨by omega, by omega⟩
theorem out53 {l g b : Int} (m : Most) (hl1 : 1 ≤ l) (hl2 : l ≤ 30) (hg0 : 0 ≤ g) (hg : g ≤ l) (hb0 : 0 ≤ b) (hb : b ≤ l) : ∃ d, itO (s53_0 l g b m) 1 = some d ∧ True :=
  itO_total (fun n => 1 ≤ n ∧ n ≤ l + 1) (fun _ => True) (fun n => (l + 1 - n).toNat) (fun n hi => by
    unfold s53_0
    by_cases h : n ≤ l
    · have hw : wrapF .i64 (n + 1) = n + 1 := wrapF_i64 (by omega) (by omega)
      obtain ⟨d, hd, _⟩ := in53 m hl2 hi.1 h hg0 hg hb0 hb
      simp only [h, decide_true, cond_true, hd, obind_at, hw]
      cases d with
      | inl d => exact .inr ⟨_, rfl, trivial⟩
      | inr d => exact .inl ⟨n + 1, rfl, ⟨by omega, by omega⟩, by omega⟩
    · simp only [h, decide_false, cond_false]
      exact .inr ⟨_, rfl, trivial⟩) _ _ (Nat.le_refl _) ⟨by omega, by omega⟩
theorem smallest_true (l : Int) (n : GRat) (m : Most) : f6 l n m = some true := by
  obtain ⟨g, b⟩ := n
  have key : (obind (f51 l g b m) fun v =>
      obind (E23 l 1 30) fun v8 => obind (E46 l g b) fun v10 => obind (E52 ⟨m.x0, m.d0⟩) fun v12 => obind (E52 ⟨m.x1, m.d1⟩) fun v14 => obind (E21 (some [v8, v10, v12, v14])) fun v16 =>
        cond (decide (v16 = 0))
         (obind (f53 l g b m) fun w =>
          cond (decide (v.1.lot = w.1.lot) && decide (v.1.sample = w.1.sample) && decide (v.1.accept = w.1.accept)) (some (decide (v.2 = w.2))) (some false))
         (cond (decide (v.1.lot = 0) && decide (v.1.sample = 0) && decide (v.1.accept = 0)) (some (decide (v.2 = v16))) (some false))) = some true := by
    have hA : E21 (some [checkRange l 1 30, defE l g b, ratE m.x0 m.d0, ratE m.x1 m.d1]) = some (firstNZ [checkRange l 1 30, defE l g b, ratE m.x0 m.d0, ratE m.x1 m.d1]) := exO_of ⟨_, rfl, by simp⟩
    unfold f51
    simp only [E108, E23, E46, E52, obind_at, hA]
    by_cases hz : firstNZ [checkRange l 1 30, defE l g b, ratE m.x0 m.d0, ratE m.x1 m.d1] = 0
    · have h1 := checkRange_zero (firstNZ_zero hz _ (List.mem_cons_self ..))
      have h2 : defE l g b = 0 := firstNZ_zero hz _ (List.mem_cons_of_mem _ (List.mem_cons_self ..))
      have h3 := checkRange_zero (firstNZ_zero h2 _ (List.mem_cons_self ..))
      have h4 := checkRange_zero (firstNZ_zero h2 _ (List.mem_cons_of_mem _ (List.mem_cons_self ..)))
      obtain ⟨d, hd, _⟩ := out53 m h1.1 h1.2 h3.1 h3.2 h4.1 h4.2
      simp only [hz, decide_true, cond_true, s51_0_eq, f53, hd, obind_at]
      have hl0 : ¬ l = 0 := by omega
      cases d with
      | inl d => simp [hl0]
      | inr d => simp
    · simp [hz]
  unfold f6
  simp only [E14, obind_at, cond_true]
  by_cases h12 : 12 < l
  · by_cases h30 : l ≤ 30
    · simp [h12, h30]
    · simp only [h12, h30, decide_true, decide_false, cond_true, cond_false]
      exact key
  · simp only [h12, decide_false, cond_false]
    exact key
theorem I6 (l : Int) (n : GRat) (m : Most) : callIso pr (X pr) 6 [.int .i64 l, .agg [.int .i64 n.num, .int .i64 n.den], .agg [.int .i64 m.x0, .int .i64 m.d0, .int .i64 m.x1, .int .i64 m.d1]] = some (.bool true, false) := W6 (smallest_true l n m)
end Go.Z
