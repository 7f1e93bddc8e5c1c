/-
  LinePairs: its law holds of the function that mirrors the run.
-/
import Derived.Test.YtbkpojiedkhfkaaGreatR6
import Derived.Test.YtbkpojiedkhfkaaGreatQ9
import Derived.Test.YtbkpojiedkhfkaaGreatQ4
import Derived.Test.YtbkpojiedkhfkaaGreatQ3
import Derived.Test.YtbkpojiedkhfkaaGreatL8
set_option linter.unusedVariables false
set_option linter.unusedSimpArgs false
set_option maxRecDepth 100000
set_option linter.unusedSimpArgs false
set_option linter.unusedVariables false
namespace Go.Z
open Go Go.Abs
theorem dAt_own (l : List GUnit) (i j : Int) : dAt (l.map ownU) i j = dAt l i j := by
  unfold dAt
  rw [List.getElem?_map, List.getElem?_map]
  cases l[i.toNat]? with
  | none => rfl
  | some u =>
    cases l[j.toNat]? with
    | none => rfl
    | some w => rfl
theorem worstP_own (l : List GUnit) (p : List GPair) : worstP (l.map ownU) p = worstP l p := by
  unfold worstP
  have : (fun (s : Int) (q : GPair) => max s (dAt (l.map ownU) q.a q.b)) = fun s q => max s (dAt l q.a q.b) := by funext s q; rw [dAt_own]
  rw [this]
theorem bestP_own (l : List GUnit) : ∀ (m : Nat) (left : List Int) (p : List GPair), bestP (l.map ownU) m left p = bestP l m left p
  | 0, left, p => by unfold bestP; rw [worstP_own]
  | m + 1, left, p => by
    unfold bestP
    have : (fun (st : Option PSch) (b : Int) => updG st (bestP (l.map ownU) m (left.tail.filter fun x => x != b) (p ++ [⟨left.headD 0, b⟩]))) = fun st b => updG st (bestP l m (left.tail.filter fun x => x != b) (p ++ [⟨left.headD 0, b⟩])) := by
      funext st b; rw [bestP_own l m]
    rw [this]
theorem radius_own (l : List GUnit) : (l.map ownU).map (radius (l.map ownU)) = l.map (radius l) := by
  rw [List.map_map]
  apply List.map_congr_left
  intro u _
  show ((l.map ownU).map (diffU (ownU u))).foldl max 0 = (l.map (diffU u)).foldl max 0
  rw [List.map_map]
  rfl
theorem firstMin_same {R : List Int} {j k : Nat} (h : FirstMin R j) (h2 : FirstMin R k) : j = k := by
  obtain ⟨m, h3, h4⟩ := h
  obtain ⟨n, h5, h6⟩ := h2
  have a := h4 k n h5
  have b := h6 j m h3
  rcases Nat.lt_trichotomy j k with h | h | h
  · have := b.2 h; omega
  · exact h
  · have := a.2 h; omega
def diffE (a b : GUnit) : Int := firstNZ [unitE a, unitE b, whenE (!decide (((a.values.getD []).length : Int) = ((b.values.getD []).length : Int))) 2]
theorem diffE_ok {a b : GUnit} (h : diffE a b = 0) : UnitOk a ∧ UnitOk b ∧ (a.values.getD []).length = (b.values.getD []).length := by
  have h1 := firstNZ_zero h _ (List.mem_cons_self ..)
  have h2 := firstNZ_zero h _ (List.mem_cons_of_mem _ (List.mem_cons_self ..))
  have h3 := whenE_zero (by decide) (firstNZ_zero h _ (List.mem_cons_of_mem _ (List.mem_cons_of_mem _ (List.mem_cons_self ..))))
  simp only [Bool.not_eq_eq_eq_not, Bool.not_false, decide_eq_true_eq] at h3
  exact ⟨unit_ok h1, unit_ok h2, by omega⟩
theorem short_size {u : GUnit} (h : shortU u = true) : u.serial.length ≤ 60 ∧ (u.values.getD []).length ≤ 17 := by
  unfold shortU at h
  simpa using h
theorem two_units {u w : GUnit} (hu : shortU u = true) (hw : shortU w = true) :
    E32 u = some (ownU u) ∧ f59 (ownU u) (ownU w) = some (if diffE u w = 0 then (diffU u w, 0) else (0, diffE u w)) ∧ f67 u w = some (diffE u w) ∧ (diffE u w = 0 → f68 u w = some (diffU u w)) := by
  obtain ⟨s1, s2⟩ := short_size hu
  obtain ⟨s3, s4⟩ := short_size hw
  have e97 : ∀ {x : GUnit}, x.serial.length ≤ 60 → (x.values.getD []).length ≤ 17 → E97 x = some (unitE x) := fun h1 h2 => exO_of ⟨by omega, by omega⟩
  have ed : diffE (ownU u) (ownU w) = diffE u w := rfl
  have ev : ∀ x : GUnit, (ownU x).values.getD [] = x.values.getD [] := fun _ => rfl
  refine ⟨exO_of (show (u.values.getD []).length ≤ 1073741824 by omega), ?_, ?_, ?_⟩
  · unfold f59
    simp only [e97 (show (ownU u).serial.length ≤ 60 from s1) (show ((ownU u).values.getD []).length ≤ 17 from s2), e97 (show (ownU w).serial.length ≤ 60 from s3) (show ((ownU w).values.getD []).length ≤ 17 from s4), obind_at, E24, E94_3]
    rw [show firstNZ [unitE (ownU u), unitE (ownU w), whenE (!decide ((((ownU u).values.getD []).length : Int) = (((ownU w).values.getD []).length : Int))) 2] = diffE u w from rfl]
    by_cases hz : diffE u w = 0
    · obtain ⟨o1, o2, o3⟩ := diffE_ok hz
      have h115 := f115_eq (a := ownU u) (b := ownU w) ⟨o1.len, o1.val⟩ ⟨o2.len, o2.val⟩ o3
      simp only [hz, decide_true, cond_true, h115, obind_at, if_true]
      rfl
    · simp only [hz, decide_false, cond_false, if_false]
  · unfold f67
    simp only [e97 s1 s2, e97 s3 s4, obind_at, E24, E94_3]
    rfl
  · intro hz
    obtain ⟨o1, o2, o3⟩ := diffE_ok hz
    rw [f68_f115, f115_eq o1 o2 o3]
theorem numP_zero (e : Int) (h : e ≠ 0) (want : Int) : numB 0 e e want = true := by unfold numB; simp [h]
theorem numP_fine (a : Int) : numB a 0 0 a = true := by unfold numB; simp
theorem f73_same {a b : Option (List GPair)} {p : List GPair} (ha : a.getD [] = p) (hb : b.getD [] = p) (hn : p.length ≤ 1000) : f73 a b = some true := by
  have key := itO_thru (ε := Unit) p.length (s73_0 a b) (by unfold s73_0; simp [ha]) (by
    intro i hi
    have hlt : (i : Int) < (p.length : Int) := by omega
    unfold s73_0
    simp only [ha, hb, hlt, decide_true, cond_true, idxO_nat, List.getElem?_eq_getElem hi, obind_at, Bool.and_self, wrap_nat (show i < 9223372036854775807 by omega)])
  unfold f73
  rw [ha, hb, key]
  simp only [decide_true, cond_true, obind_at]
def checkE (l : List GUnit) (p : List GPair) : Int := if shapeE (l.length : Int) (p.length : Int) = 0 then pairsX (l.length : Int) [] (-1) p else shapeE (l.length : Int) (p.length : Int)
def typE (l : List GUnit) : Int := firstNZ [unitsE l, whenE (decide ((l.length : Int) = 0)) 12]
theorem typE_ok {l : List GUnit} (h : typE l = 0) : unitsE l = 0 ∧ l ≠ [] := by
  have h1 := firstNZ_zero h _ (List.mem_cons_self ..)
  have h2 := whenE_zero (by decide) (firstNZ_zero h _ (List.mem_cons_of_mem _ (List.mem_cons_self ..)))
  simp only [decide_eq_false_iff_not] at h2
  exact ⟨h1, fun e => h2 (by rw [e]; rfl)⟩
set_option maxHeartbeats 2000000 in
theorem tail_true {a0 : Option (List GUnit)} {a1 : Option (List GPair)} {l : List GUnit} {p : List GPair} (hl : a0.getD [] = l) (hp : a1.getD [] = p) (hln : l.length ≤ 65) (hpn : p.length ≤ 8)
    {p7 p8 p10 p11 p12 p13 p14 p15 p16 : Int} {p9 : Option (List GPair)} {u w : GUnit}
    (h1 : (p7, p8) = if p16 = 0 then (diffU u w, 0) else (0, p16)) (h68 : p16 = 0 → f68 u w = some (diffU u w))
    (h2 : if pairsE l = 0 then p9.getD [] = (bestP l (l.length / 2) (allI l.length) []).1 ∧ p10 = (bestP l (l.length / 2) (allI l.length) []).2 ∧ p11 = 0 else p9 = none ∧ p10 = 0 ∧ p11 = pairsE l)
    (h3 : (p12, p13) = if unitsE l = 0 then (if checkE l p = 0 then (worstP l p, 0) else (0, checkE l p)) else (0, unitsE l))
    (h4 : if typE l = 0 then p15 = 0 ∧ ∃ k : Nat, p14 = (k : Int) ∧ FirstMin (l.map (radius l)) k else p14 = 0 ∧ p15 = typE l) :
    j10_14 a0 a1 p7 p8 p9 p10 p11 p12 p13 p14 p15 p16 (pairsE l) (unitsE l) (typE l) (decide (p16 = 0)) u.serial u.values w.serial w.values = some true := by
  have hd : ∃ d, numB p7 p8 p16 d = true ∧ j10_14 a0 a1 p7 p8 p9 p10 p11 p12 p13 p14 p15 p16 (pairsE l) (unitsE l) (typE l) (decide (p16 = 0)) u.serial u.values w.serial w.values = j10_15 a0 a1 p7 p8 p9 p10 p11 p12 p13 p14 p15 p16 (pairsE l) (unitsE l) (typE l) d (decide (pairsE l = 0)) u.serial u.values w.serial w.values := by
    unfold j10_14
    by_cases hz : p16 = 0
    · rw [if_pos hz] at h1
      cases h1
      refine ⟨diffU u w, by rw [hz]; exact numP_fine _, ?_⟩
      simp only [hz, decide_true, cond_true]
      rw [show (⟨u.serial, u.values⟩ : GUnit) = u from rfl, show (⟨w.serial, w.values⟩ : GUnit) = w from rfl, h68 hz]
      rfl
    · rw [if_neg hz] at h1
      cases h1
      refine ⟨0, numP_zero _ hz _, ?_⟩
      simp only [hz, decide_false, cond_false]
  obtain ⟨d, n1, e1⟩ := hd
  rw [e1]
  have hb : ∃ (v : Int) (x : Option (List GPair)), numB p10 p11 (pairsE l) v = true ∧ f73 p9 x = some true ∧ j10_15 a0 a1 p7 p8 p9 p10 p11 p12 p13 p14 p15 p16 (pairsE l) (unitsE l) (typE l) d (decide (pairsE l = 0)) u.serial u.values w.serial w.values = j10_16 a0 a1 p7 p8 p9 p10 p11 p12 p13 p14 p15 p16 (pairsE l) (unitsE l) (typE l) d v x (decide (unitsE l = 0)) u.serial u.values w.serial w.values := by
    unfold j10_15
    by_cases hz : pairsE l = 0
    · rw [if_pos hz] at h2
      obtain ⟨g1, g2, g3⟩ := h2
      obtain ⟨hun, m, hm, hm4⟩ := pairsE_ok hz
      obtain ⟨r, r1, r2, r3⟩ := f69_eq hl (units_ok hun) hm hm4
      have hm2 : l.length / 2 = m := by omega
      rw [hm2] at g1 g2
      have hlen := (bestP_is (l := l) (n := l.length) m (allI l.length) [] (allI_ok _) (by rw [allI_len]; exact hm) (fun q hq => by cases hq)).1
      refine ⟨r.2, r.1, ?_, f73_same g1 r2 (by rw [hlen]; simp; omega), ?_⟩
      · rw [hz, g3, g2, r3]; exact numP_fine _
      · simp only [hz, decide_true, cond_true, r1, obind_at]
    · rw [if_neg hz] at h2
      obtain ⟨rfl, rfl, rfl⟩ := h2
      refine ⟨0, none, numP_zero _ hz _, f73_same (p := []) rfl rfl (by simp), ?_⟩
      simp only [hz, decide_false, cond_false]
  obtain ⟨v, x, n2, n3, e2⟩ := hb
  rw [e2]
  have hc : ∃ (b g : Int), numB p12 p13 b g = true ∧ j10_16 a0 a1 p7 p8 p9 p10 p11 p12 p13 p14 p15 p16 (pairsE l) (unitsE l) (typE l) d v x (decide (unitsE l = 0)) u.serial u.values w.serial w.values = j10_17 a0 a1 p7 p8 p9 p10 p11 p12 p13 p14 p15 p16 (pairsE l) b (typE l) d v g x (decide (typE l = 0)) u.serial u.values w.serial w.values := by
    unfold j10_16
    by_cases hz : unitsE l = 0
    · rw [if_pos hz] at h3
      have h70 := f70_eq hl hp (by omega) (by omega)
      rw [show (if shapeE (l.length : Int) (p.length : Int) = 0 then pairsX (l.length : Int) [] (-1) p else shapeE (l.length : Int) (p.length : Int)) = checkE l p from rfl] at h70
      simp only [hz, decide_true, cond_true, h70, obind_at]
      by_cases hk : checkE l p = 0
      · rw [if_pos hk] at h3
        cases h3
        have hpx : pairsX (l.length : Int) [] (-1) p = 0 := by
          unfold checkE at hk
          split at hk
          · exact hk
          · rename_i h; exact absurd hk h
        have h71 := f71_eq hl hp (units_ok hz) (fun q hq => pairsX_in hpx q hq) (by omega)
        refine ⟨checkE l p, worstP l p, by rw [hk]; exact numP_fine _, ?_⟩
        simp only [hk, decide_true, cond_true, h71, obind_at]
      · rw [if_neg hk] at h3
        cases h3
        refine ⟨checkE l p, 0, numP_zero _ hk _, ?_⟩
        simp only [hk, decide_false, cond_false]
    · rw [if_neg hz] at h3
      cases h3
      refine ⟨unitsE l, 0, numP_zero _ hz _, ?_⟩
      simp only [hz, decide_false, cond_false]
  obtain ⟨b, g, n4, e3⟩ := hc
  rw [e3]
  unfold j10_17
  by_cases hz : typE l = 0
  · rw [if_pos hz] at h4
    obtain ⟨g1, k, g2, g3⟩ := h4
    obtain ⟨hun, hne⟩ := typE_ok hz
    obtain ⟨k', e72, g4⟩ := f72_eq hl (units_ok hun) (by omega) hne
    have : k = k' := firstMin_same g3 g4
    subst this
    have n5 : numB p14 p15 (typE l) (k : Int) = true := by rw [g1, g2, hz]; exact numP_fine _
    rw [hz] at n5 ⊢
    simp only [decide_true, cond_true, e72, obind_at, E40, n1, n2, n3, n4, n5]
  · rw [if_neg hz] at h4
    obtain ⟨rfl, rfl⟩ := h4
    have n5 : numB 0 (typE l) (typE l) 0 = true := numP_zero _ hz _
    simp only [hz, decide_false, cond_false, obind_at, E40, n1, n2, n3, n4, n5, cond_true]
theorem f57_eq {o : Option (List GUnit)} {l : List GUnit} (h : o.getD [] = l) (hn : l.length ≤ 1000) (e22 : E22 o = some (unitsE l)) :
    if typE l = 0 then ∃ k : Nat, f57 o = some ((k : Int), 0) ∧ FirstMin (l.map (radius l)) k else f57 o = some (0, typE l) := by
  have e94 : ∀ a b, E94 (some [a, b]) = some (firstNZ [a, b]) := fun a b => exO_of ⟨by simp, by simp⟩
  have hun : f57 o = cond (decide (typE l = 0)) (obind (f90a o o) fun v8 => obind (E92 v8.1) fun v10 => obind (f116 v8.1 v10) fun v12 => some (v12, (0 : Int))) (some (0, typE l)) := by
    unfold f57
    simp only [e22, obind_at, h, E24, e94]
    rfl
  rw [hun]
  split
  · next hz =>
    obtain ⟨h1, hne⟩ := typE_ok hz
    obtain ⟨k, _, h3, h4⟩ := typical_eq h h (units_ok h1) hn hne
    refine ⟨k, ?_, h3⟩
    simp only [hz, decide_true, cond_true]
    exact h4
  · next hz => simp only [hz, decide_false, cond_false]
theorem E21_3 (a b c : Int) : E21 (some [a, b, c]) = some (firstNZ [a, b, c]) := exO_of (by simp)
theorem E21_2 (a b : Int) : E21 (some [a, b]) = some (firstNZ [a, b]) := exO_of (by simp)
set_option maxHeartbeats 2000000 in
theorem pairs_main {a0 : Option (List GUnit)} {a1 : Option (List GPair)} (hs : ∀ u ∈ a0.getD [], shortU u = true) (hln : (a0.getD []).length ≤ 65) (hpn : (a1.getD []).length ≤ 8) : j10_3 a0 a1 = some true := by
  generalize hl : a0.getD [] = l at hs hln
  generalize hp : a1.getD [] = p at hpn
  have e18 : E18 a0 = some (nonNil (l.map ownU)) := by
    unfold E18
    rw [hl]
    exact exO_of ⟨by omega, fun u hu => by have := (short_size (hs u hu)).2; unfold okLen; omega⟩
  have e22 : E22 a0 = some (unitsE l) := by
    unfold E22
    rw [hl]
    exact exO_of ⟨by omega, fun u hu => by have := short_size (hs u hu); unfold sizeU; omega⟩
  have ho : (nonNil (l.map ownU)).getD [] = l.map ownU := nonNil_get' _
  have hol : (l.map ownU).length = l.length := List.length_map ..
  have e22o : E22 (nonNil (l.map ownU)) = some (unitsE (l.map ownU)) := by
    unfold E22
    rw [ho]
    refine exO_of ⟨by omega, fun u hu => ?_⟩
    obtain ⟨w, hw, rfl⟩ := List.mem_map.1 hu
    have := short_size (hs w hw)
    exact ⟨show w.serial.length ≤ 1073741824 by omega, show (w.values.getD []).length ≤ 1073741824 by omega⟩
  have hap : apO (some []) p = some (some p) := ap_nil p (by omega)
  have hrem : remO (l.length : Int) 2 = some ((l.length : Int).tmod 2) := by unfold remO; rw [if_neg (by decide)]
  have hpE : pairsE (l.map ownU) = pairsE l := by unfold pairsE; rw [unitsE_own, hol]
  have htE : typE (l.map ownU) = typE l := by unfold typE; rw [unitsE_own, hol]
  obtain ⟨s56, e56, q56⟩ : ∃ s56, f56 (nonNil (l.map ownU)) = some s56 ∧ (if pairsE l = 0 then s56.1.getD [] = (bestP l (l.length / 2) (allI l.length) []).1 ∧ s56.2.1 = (bestP l (l.length / 2) (allI l.length) []).2 ∧ s56.2.2 = 0 else s56.1 = none ∧ s56.2.1 = 0 ∧ s56.2.2 = pairsE l) := by
    have := f56_eq ho (by omega) e22o
    rw [hpE, hol] at this
    split at this
    · next hz =>
      obtain ⟨b, w, h1, h2, h3⟩ := this
      refine ⟨_, h1, ?_⟩
      rw [if_pos hz, bestP_own] at *
      exact ⟨h2, h3, rfl⟩
    · next hz => exact ⟨_, this, by rw [if_neg hz]; exact ⟨rfl, rfl, rfl⟩⟩
  obtain ⟨s66, e66, q66⟩ : ∃ s66, f66 (nonNil (l.map ownU)) (some p) = some s66 ∧ s66 = (if unitsE l = 0 then (if checkE l p = 0 then (worstP l p, 0) else (0, checkE l p)) else (0, unitsE l)) := by
    have := f66_eq ho (op := some p) (p := p) rfl (by omega) e22o
    rw [hol, unitsE_own, worstP_own] at this
    refine ⟨_, this, ?_⟩
    unfold checkE
    by_cases h1 : unitsE l = 0
    · rw [if_pos h1, if_pos h1]
      by_cases h2 : shapeE (l.length : Int) (p.length : Int) = 0
      · simp only [h2, if_true]
      · simp only [h2, if_false]
    · rw [if_neg h1, if_neg h1]
  obtain ⟨s57, e57, q57⟩ : ∃ s57, f57 (nonNil (l.map ownU)) = some s57 ∧ (if typE l = 0 then s57.2 = 0 ∧ ∃ k : Nat, s57.1 = (k : Int) ∧ FirstMin (l.map (radius l)) k else s57.1 = 0 ∧ s57.2 = typE l) := by
    have := f57_eq ho (by omega) e22o
    rw [htE, radius_own] at this
    split at this
    · next hz =>
      obtain ⟨k, h1, h2⟩ := this
      exact ⟨_, h1, by rw [if_pos hz]; exact ⟨rfl, k, rfl, h2⟩⟩
    · next hz => exact ⟨_, this, by rw [if_neg hz]; exact ⟨rfl, rfl⟩⟩
  have main : ∀ u w : GUnit, shortU u = true → shortU w = true → (obind (E32 u) fun v18 => obind (E32 w) fun v20 => obind (f59 v18 v20) fun v22 => obind (f67 u w) fun v34 =>
      j10_14 a0 a1 v22.1 v22.2 s56.1 s56.2.1 s56.2.2 s66.1 s66.2 s57.1 s57.2 v34 (pairsE l) (unitsE l) (typE l) (decide (v34 = 0)) u.serial u.values w.serial w.values) = some true := by
    intro u w hu hw
    obtain ⟨t1, t2, t3, t4⟩ := two_units hu hw
    obtain ⟨t5, _, _, _⟩ := two_units hw hw
    simp only [t1, t5, obind_at, t2, t3]
    refine tail_true hl hp hln hpn ?_ t4 q56 ?_ q57
    · by_cases hz : diffE u w = 0
      · simp only [hz, if_true]
      · simp only [hz, if_false]
    · rw [← q66]
  unfold j10_3
  simp only [hl, hp, e18, e22, hrem, hap, obind_at, E24, E21_3, E21_2, e56, e66, e57]
  rw [show firstNZ [unitsE l, whenE (!decide ((l.length : Int).tmod 2 = 0)) 35, whenE (decide (8 < (l.length : Int))) 23] = pairsE l from rfl, show firstNZ [unitsE l, whenE (decide ((l.length : Int) = 0)) 12] = typE l from rfl]
  by_cases h0 : 0 < l.length
  · have h0' : (0 : Int) < (l.length : Int) := by omega
    have hw : wrapF .i64 ((l.length : Int) - 1) = ((l.length - 1 : Nat) : Int) := by rw [wrapF_i64 (by omega) (by omega)]; omega
    have i0 : idxO l 0 = some l[0] := by
      have := idxO_nat (l := l) (i := 0)
      rw [Int.natCast_zero] at this
      rw [this, List.getElem?_eq_getElem h0]
    have i1 : idxO l ((l.length - 1 : Nat) : Int) = some l[l.length - 1] := by rw [idxO_nat, List.getElem?_eq_getElem (by omega)]
    have := main l[0] l[l.length - 1] (hs _ (List.getElem_mem h0)) (hs _ (List.getElem_mem (by omega)))
    simp only [h0', decide_true, cond_true, i0, hw, i1, obind_at]
    exact this
  · have h0' : ¬ (0 : Int) < (l.length : Int) := by omega
    have := main ⟨[], none⟩ ⟨[], none⟩ (by decide) (by decide)
    obtain ⟨t5, _, _, _⟩ := two_units (u := ⟨[], none⟩) (w := ⟨[], none⟩) (by decide) (by decide)
    simp only [t5, obind_at] at this
    simp only [h0', decide_false, cond_false, t5, obind_at]
    exact this
theorem shortUs_all {l : List GUnit} {n : Int} (h : shortUs l n = true) : ((l.length : Int) ≤ n ∨ l.length = 65) ∧ ∀ u ∈ l, shortU u = true := by
  unfold shortUs at h
  split at h
  · cases h
  · rename_i hc
    refine ⟨?_, fun u hu => List.all_eq_true.1 h u hu⟩
    by_cases h1 : l.length = 65
    · exact .inr h1
    · refine .inl ?_
      by_cases h2 : (l.length : Int) ≤ n
      · exact h2
      · exact absurd ⟨by omega, h1⟩ hc
set_option maxHeartbeats 2000000 in
theorem pairs_true (a0 : Option (List GUnit)) (a1 : Option (List GPair)) : f10 a0 a1 = some true := by
  have e6 : E15 a0 6 = some (shortUs (a0.getD []) 6) := exO_of (by decide)
  have e10 : E15 a0 10 = some (shortUs (a0.getD []) 10) := exO_of (by decide)
  unfold f10
  simp only [E14, obind_at, cond_true, e6, e10]
  have go : ∀ n : Int, n ≤ 10 → shortUs (a0.getD []) n = true → (cond (decide (8 < ((a1.getD []).length : Int))) (some true) (j10_3 a0 a1)) = some true := by
    intro n hn h
    obtain ⟨h1, h2⟩ := shortUs_all h
    by_cases h8 : (8 : Int) < ((a1.getD []).length : Int)
    · simp only [h8, decide_true, cond_true]
    · simp only [h8, decide_false, cond_false]
      exact pairs_main h2 (by omega) (by omega)
  cases h6 : shortUs (a0.getD []) 6 with
  | true => simp only [cond_true]; exact go 6 (by decide) h6
  | false =>
    simp only [cond_false]
    by_cases hl : ((a0.getD []).length : Int) = 10
    · simp only [hl, decide_true, cond_true]
      cases h10 : shortUs (a0.getD []) 10 with
      | true => simp only [cond_true]; exact go 10 (by decide) h10
      | false => simp only [cond_false]
    · simp only [hl, decide_false, cond_false]
theorem I10 (a0 : Option (List GUnit)) (a1 : Option (List GPair)) : callIso prP (X prP) 10 [sl 2 vunit a0, sl 2 vpair a1] = some (.bool true, false) := W10 (pairs_true a0 a1)
end Go.Z
