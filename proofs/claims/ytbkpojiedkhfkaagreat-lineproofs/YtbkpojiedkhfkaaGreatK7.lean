/-
  LineProofs: its law holds of the function that mirrors the run.
-/
import Derived.Test.YtbkpojiedkhfkaaGreatK5
import Derived.Test.YtbkpojiedkhfkaaGreatL8
set_option linter.unusedVariables false
set_option linter.unusedSimpArgs false
set_option maxRecDepth 100000
set_option linter.unusedSimpArgs false
set_option linter.unusedVariables false
namespace Go.Z
open Go Go.Abs
theorem dAt_ownK (l : List GUnit) (i j : Int) : dAt (l.map ownU) i j = dAt l i j := by
  unfold dAt
  rw [List.getElem?_map, List.getElem?_map]
  cases l[i.toNat]? with
  | none => rfl
  | some u =>
    cases l[j.toNat]? with
    | none => rfl
    | some w => rfl
theorem near_own (l : List GUnit) (below : Int) : near (l.map ownU) below = near l below := by
  funext x y
  unfold near
  rw [dAt_ownK]
theorem short_sizeK {u : GUnit} (h : shortU u = true) : u.serial.length ≤ 60 ∧ (u.values.getD []).length ≤ 17 := by
  unfold shortU at h
  simpa using h
theorem shortUs_allK {l : List GUnit} {n : Int} (h : shortUs l n = true) : ((l.length : Int) ≤ n ∨ l.length = 65) ∧ ∀ u ∈ l, shortU u = true := by
  unfold shortUs at h
  split at h
  · cases h
  · rename_i hc
    refine ⟨?_, fun u hu => List.all_eq_true.1 h u hu⟩
    by_cases h1 : l.length = 65
    · exact .inr h1
    · refine .inl ?_
      by_cases h2 : (l.length : Int) ≤ n
      · exact h2
      · exact absurd ⟨by omega, h1⟩ hc
theorem s141_src {rec : RecS} {n : Int} {set y : Option (List Int)} : ∀ {k : Nat} {i : Int}, itF (s141 rec n set) k i = some (some y) → ∃ s' j, rec s' j = some (some y)
  | 0, i, h => by cases h
  | k + 1, i, h => by
    rw [itF] at h
    cases hs : s141 rec n set i with
    | none => rw [hs] at h; cases h
    | some r =>
      rw [hs] at h
      unfold s141 at hs
      rcases cond_split hs with ⟨h1, hs⟩ | ⟨h1, hs⟩
      · obtain ⟨c, h2, hs⟩ := obind_some hs
        obtain ⟨s', h3, hs⟩ := obind_some hs
        obtain ⟨x, h4, hs⟩ := obind_some hs
        cases x with
        | none => cases hs; exact s141_src h
        | some x => cases hs; cases h; exact ⟨s', _, h4⟩
      · cases hs; cases h
theorem found141 {o : Option (List GUnit)} {below n size : Int} : ∀ (k : Nat) {set y : Option (List Int)} {frm : Int}, f141 o below n size k set frm = some (some y) → ((y.getD []).length : Int) = size
  | 0, set, y, frm, h => by cases h
  | k + 1, set, y, frm, h => by
    have h : F141 o below n size (f141 o below n size k) set frm = some (some y) := h
    unfold F141 at h
    rcases cond_split h with ⟨h1, h⟩ | ⟨h1, h⟩
    · obtain ⟨c, h2, h⟩ := obind_some h
      obtain ⟨b, h3, h⟩ := obind_some h
      obtain ⟨_, rfl⟩ := exO_some h2
      cases b with
      | false => cases h
      | true => cases h; exact of_decide_eq_true h1
    · obtain ⟨m, hm⟩ := itO_iff.1 h
      obtain ⟨s', j, hj⟩ := s141_src hm
      exact found141 k hj
theorem s60_src {o : Option (List GUnit)} {below : Int} {z : Int × Option (List Int)} : ∀ {k : Nat} {i : Int}, itF (s60 o below) k i = some (.inr z) → ∃ i', i' < wrapF .i64 (((o.getD []).length : Int) + 1) ∧ f141 o below ((o.getD []).length : Int) i' 12 none 0 = some (some z.2)
  | 0, i, h => by cases h
  | k + 1, i, h => by
    rw [itF] at h
    cases hs : s60 o below i with
    | none => rw [hs] at h; cases h
    | some r =>
      rw [hs] at h
      unfold s60 at hs
      rcases cond_split hs with ⟨h1, hs⟩ | ⟨h1, hs⟩
      · obtain ⟨x, h4, hs⟩ := obind_some hs
        cases x with
        | none => cases hs; exact s60_src h
        | some x => cases hs; cases h; exact ⟨i, of_decide_eq_true h1, h4⟩
      · cases hs; cases h
theorem found60 {o : Option (List GUnit)} {below : Int} {z : Int × Option (List Int)} (h : itO (s60 o below) 0 = some (.inr z)) : ((z.2.getD []).length : Int) < wrapF .i64 (((o.getD []).length : Int) + 1) := by
  obtain ⟨k, hk⟩ := itO_iff.1 h
  obtain ⟨i, h1, h2⟩ := s60_src hk
  rw [found141 12 h2]
  exact h1
def checkB (l : List GUnit) (below : Int) : Int := firstNZ [unitsE l, checkRange below 1 200001]
theorem proveE_ok {l : List GUnit} {below : Int} (h : proveE l below = 0) : unitsE l = 0 ∧ l.length ≤ 8 := by
  have h1 := firstNZ_zero h _ (List.mem_cons_self ..)
  have h2 := whenE_zero (by decide) (firstNZ_zero h _ (List.mem_cons_of_mem _ (List.mem_cons_self ..)))
  simp only [decide_eq_false_iff_not] at h2
  exact ⟨h1, by omega⟩
theorem units_le64 {l : List GUnit} (h : unitsE l = 0) : l.length ≤ 64 := by
  unfold unitsE at h
  split at h
  · assumption
  · cases h
theorem E21_3K (a b c : Int) : E21 (some [a, b, c]) = some (firstNZ [a, b, c]) := exO_of ⟨_, rfl, by simp⟩
theorem E21_2K (a b : Int) : E21 (some [a, b]) = some (firstNZ [a, b]) := exO_of ⟨_, rfl, by simp⟩
set_option maxHeartbeats 2000000 in
theorem proofs_main {a0 : Option (List GUnit)} {below : Int} {a2 : Option (List Int)} (hs : ∀ u ∈ a0.getD [], shortU u = true) (hln : (a0.getD []).length ≤ 65) (h2n : (a2.getD []).length ≤ 10) : j9_1 a0 below a2 false = some true := by
  generalize hl : a0.getD [] = l at hs hln
  generalize h2 : a2.getD [] = set at h2n
  have e18 : E18 a0 = some (nonNil (l.map ownU)) := by
    unfold E18
    rw [hl]
    exact exO_of ⟨by omega, fun u hu => by have := (short_sizeK (hs u hu)).2; unfold okLen; omega⟩
  have e22 : E22 a0 = some (unitsE l) := by
    unfold E22
    rw [hl]
    exact exO_of ⟨by omega, fun u hu => by have := short_sizeK (hs u hu); unfold sizeU; omega⟩
  have ho : (nonNil (l.map ownU)).getD [] = l.map ownU := nonNil_get' _
  have hol : (l.map ownU).length = l.length := List.length_map ..
  have e22o : E22 (nonNil (l.map ownU)) = some (unitsE l) := by
    rw [← unitsE_own]
    unfold E22
    rw [ho]
    refine exO_of ⟨by omega, fun u hu => ?_⟩
    obtain ⟨w, hw, rfl⟩ := List.mem_map.1 hu
    have := short_sizeK (hs w hw)
    exact ⟨show w.serial.length ≤ 1073741824 by omega, show (w.values.getD []).length ≤ 1073741824 by omega⟩
  have e62 : E62 a2 = some (ownI a2) := by unfold E62; rw [h2]; exact exO_of (by omega)
  have h2o : (ownI a2).getD [] = set := by show (a2.getD []) = set; exact h2
  have hll : (nonNil (l.map ownU)).getD [] = l.map ownU := ho
  have huu : unitsE l = 0 → UnitsOk l ∧ UnitsOk (l.map ownU) := fun h => ⟨units_ok h, units_ok (by rw [unitsE_own]; exact h)⟩
  obtain ⟨x60, y60, f64r, e60, q60⟩ : ∃ (x60 : Option (List Int)) (y60 : Int) (r : Option (List Int) × Int), f60 (nonNil (l.map ownU)) below = some (x60, y60) ∧ (if proveE l below = 0 then f64 a0 below = some r ∧ x60.getD [] = r.1.getD [] ∧ y60 = r.2 else x60 = none ∧ y60 = proveE l below ∧ r = (none, 0)) ∧ (x60.getD []).length ≤ 1000 := by
    have hun : f60 (nonNil (l.map ownU)) below = cond (decide (proveE l below = 0)) (obind (itO (s60 (nonNil (l.map ownU)) below) 0) fun d => match d with
        | .inl _ => some ((none : Option (List Int)), (7 : Int))
        | .inr x => some (x.2, (0 : Int))) (some (none, proveE l below)) := by
      unfold f60 f117
      simp only [e22o, obind_at, ho, hol, E24, E23, E94_3]
      rfl
    rw [hun]
    by_cases hz : proveE l below = 0
    · obtain ⟨h1, h8⟩ := proveE_ok hz
      obtain ⟨u1, u2⟩ := huu h1
      obtain ⟨y, x, e, e1, e3, e4⟩ := prove_same (o := a0) (o' := nonNil (l.map ownU)) (below := below) hl ho hol (near_own l below) u1 u2 h8
      simp only [hz, decide_true, cond_true, e1, obind_at, if_true]
      cases e with
      | inl i =>
        obtain ⟨rfl, rfl⟩ := e4
        exact ⟨none, 7, (none, 7), rfl, ⟨e3, rfl, rfl⟩, by simp⟩
      | inr z =>
        obtain ⟨rfl, hx⟩ := e4
        have hxl := found60 e1
        rw [ho, hol, wrapF_i64 (by omega) (by omega)] at hxl
        exact ⟨z.2, 0, (x, 0), rfl, ⟨e3, hx, rfl⟩, by omega⟩
    · simp only [hz, decide_false, cond_false, if_false]
      exact ⟨none, proveE l below, (none, 0), rfl, ⟨rfl, rfl, rfl⟩, by simp⟩
  obtain ⟨q60, hlen60⟩ := q60
  obtain ⟨x61, e61, q61⟩ : ∃ x61, f61 (nonNil (l.map ownU)) below (ownI a2) = some x61 ∧ (if checkB l below = 0 then f65 a0 below a2 = some x61 else x61 = checkB l below) := by
    have hun : f61 (nonNil (l.map ownU)) below (ownI a2) = cond (decide (checkB l below = 0)) (obind (itO (s61_0 (nonNil (l.map ownU)) below (ownI a2)) 0) fun d94 => match d94 with
        | .inl d96 => some d96
        | .inr d97 => obind (f119 (nonNil (l.map ownU)) below (ownI a2)) fun v98 => obind (E24 (!v98) 22) fun v100 => some v100) (some (checkB l below)) := by
      unfold f61 f117
      simp only [e22o, obind_at, E23, E94_2]
      rfl
    rw [hun]
    by_cases hz : checkB l below = 0
    · have h1 := firstNZ_zero hz _ (List.mem_cons_self ..)
      obtain ⟨u1, u2⟩ := huu h1
      obtain ⟨e, e1, e2⟩ := check_same (o := a0) (o' := nonNil (l.map ownU)) (below := below) (a2 := a2) (a2' := ownI a2) hl ho hol (near_own l below) u1 u2 h2 h2o (units_le64 h1) (by omega)
      refine ⟨e, ?_, by rw [if_pos hz]; exact e1⟩
      simp only [hz, decide_true, cond_true]
      cases hd : itO (s61_0 (nonNil (l.map ownU)) below (ownI a2)) 0 with
      | none => rw [hd] at e2; cases e2
      | some d =>
        rw [hd] at e2
        cases d with
        | inl d => exact e2
        | inr d => exact e2
    · refine ⟨checkB l below, ?_, by rw [if_neg hz]⟩
      simp only [hz, decide_false, cond_false]
  unfold j9_1
  simp only [cond_false, e18, obind_at, e60, e62, e61, e22, hl, E24, f63, E23, E21_3K, E21_2K]
  rw [show firstNZ [unitsE l, whenE (decide (8 < (l.length : Int))) 23, checkRange below 1 200001] = proveE l below from rfl, show firstNZ [unitsE l, checkRange below 1 200001] = checkB l below from rfl]
  have last : ∀ (p13 : Option (List Int)), x60.getD [] = p13.getD [] → j9_9 a0 below a2 x60 y60 x61 y60 (checkB l below) p13 (decide (checkB l below = 0)) = some true := by
    intro p13 hp
    have e39 : E39 x60 p13 = some true := by
      unfold E39
      rw [exO_of (by omega)]
      simp [hp]
    unfold j9_9
    by_cases hz : checkB l below = 0
    · rw [if_pos hz] at q61
      simp only [hz, decide_true, cond_true, q61, obind_at, e39]
    · rw [if_neg hz] at q61
      simp only [hz, decide_false, decide_true, cond_false, cond_true, e39, obind_at, q61]
  unfold j9_8
  by_cases hz : proveE l below = 0
  · rw [if_pos hz] at q60
    obtain ⟨g1, g2, g3⟩ := q60
    simp only [hz, decide_true, cond_true, g1, obind_at, ← g3]
    exact last _ g2
  · rw [if_neg hz] at q60
    obtain ⟨g1, g2, g3⟩ := q60
    simp only [hz, decide_false, cond_false]
    rw [← g2]
    exact last none (by rw [g1])
set_option maxHeartbeats 2000000 in
theorem proofs_true (a0 : Option (List GUnit)) (below : Int) (a2 : Option (List Int)) : f9 a0 below a2 = some true := by
  have e7 : E15 a0 7 = some (shortUs (a0.getD []) 7) := exO_of (by decide)
  have e9 : E15 a0 9 = some (shortUs (a0.getD []) 9) := exO_of (by decide)
  have ht : j9_1 a0 below a2 true = some true := by unfold j9_1; rfl
  unfold f9
  simp only [E14, obind_at, cond_true, e7, e9, ht]
  have go : ∀ n : Int, n ≤ 9 → shortUs (a0.getD []) n = true → j9_1 a0 below a2 (decide (10 < ((a2.getD []).length : Int))) = some true := by
    intro n hn h
    obtain ⟨h1, h2⟩ := shortUs_allK h
    by_cases h8 : (10 : Int) < ((a2.getD []).length : Int)
    · simp only [h8, decide_true, ht]
    · simp only [h8, decide_false]
      exact proofs_main h2 (by omega) (by omega)
  cases h6 : shortUs (a0.getD []) 7 with
  | true => simp only [cond_true]; exact go 7 (by decide) h6
  | false =>
    simp only [cond_false]
    by_cases hl : ((a0.getD []).length : Int) = 9
    · simp only [hl, decide_true, cond_true]
      cases h10 : shortUs (a0.getD []) 9 with
      | true => simp only [cond_true]; exact go 9 (by decide) h10
      | false => simp only [cond_false]
    · simp only [hl, decide_false, cond_false]
theorem I9 (a0 : Option (List GUnit)) (below : Int) (a2 : Option (List Int)) : callIso pr (X pr) 9 [sl 2 vunit a0, .int .i64 below, sl 1 vint a2] = some (.bool true, false) := W9 (proofs_true a0 below a2)
end Go.Z
