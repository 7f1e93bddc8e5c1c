/-
  LineGolden: its law holds of the functions that mirror the runs.
-/
import Derived.Test.YtbkpojiedkhfkaaGreatH3
import Derived.Test.YtbkpojiedkhfkaaGreatH4
set_option linter.unusedVariables false
set_option linter.unusedSimpArgs false
set_option maxRecDepth 100000
set_option linter.unusedSimpArgs false
namespace Go.Z
open Go Go.Abs
theorem wrap_nat {i : Nat} (h : i < 9223372036854775807) : wrapF .i64 ((i : Int) + 1) = ((i + 1 : Nat) : Int) := by
  rw [wrapF_i64 (by omega) (by omega)]; rfl
theorem in54 (o : Option (List GUnit)) (s0 : Int) (u : GUnit) (hn : (u.values.getD []).length ≤ 16) :
    (∃ e, itO (s54_1 o 90000 s0 u) 0 = some (.inl e)) ∨ (itO (s54_1 o 90000 s0 u) 0 = some (.inr ((u.values.getD []).length : Int)) ∧ ∀ v ∈ u.values.getD [], -90000 ≤ v ∧ v ≤ 90000) := by
  have key := itO_all (u.values.getD []) (s54_1 o 90000 s0 u) (fun _ v => -90000 ≤ v ∧ v ≤ 90000) (by unfold s54_1; simp) ?_
  · rcases key with h | ⟨h1, h2⟩
    · exact .inl h
    · refine .inr ⟨h1, fun v hv => ?_⟩
      obtain ⟨i, hi⟩ := List.getElem?_of_mem hv
      exact h2 i v hi
  · intro i v hv
    have hi : i < (u.values.getD []).length := (List.getElem?_eq_some_iff.1 hv).1
    unfold s54_1
    have hlt : (i : Int) < ((u.values.getD []).length : Int) := by omega
    have hm : wrapF .i64 (0 - 90000) = -90000 := by decide
    simp only [hlt, decide_true, cond_true, idxO_nat, hv, obind_at, hm, wrap_nat (show i < 9223372036854775807 by omega)]
    by_cases h1 : (90000 : Int) < v
    · exact .inr ⟨(), by simp [h1]⟩
    · by_cases h2 : v < -90000
      · exact .inr ⟨(), by simp [h1, h2]⟩
      · exact .inl ⟨by simp [h1, h2], by omega, by omega⟩
theorem f54_some (o : Option (List GUnit)) (hl : (o.getD []).length ≤ 8) (hs : ∀ u ∈ o.getD [], (u.values.getD []).length ≤ 16) : ∃ b, f54 o 90000 = some b ∧ (b = true → winU (o.getD [])) := by
  unfold f54
  have key := itO_all (o.getD []) (s54_0 o 90000) (fun _ u => ∀ v ∈ u.values.getD [], -90000 ≤ v ∧ v ≤ 90000) (by unfold s54_0; simp) ?_
  · rcases key with ⟨e, h⟩ | ⟨h1, h2⟩
    · exact ⟨false, by rw [h]; rfl, fun h => by cases h⟩
    · refine ⟨true, by rw [h1]; rfl, fun _ u hu => ?_⟩
      obtain ⟨i, hi⟩ := List.getElem?_of_mem hu
      exact h2 i u hi
  · intro i u hu
    have hi : i < (o.getD []).length := (List.getElem?_eq_some_iff.1 hu).1
    unfold s54_0
    have hlt : (i : Int) < ((o.getD []).length : Int) := by omega
    simp only [hlt, decide_true, cond_true, idxO_nat, hu, obind_at, wrap_nat (show i < 9223372036854775807 by omega)]
    rcases in54 o (i : Int) u (hs u (List.mem_of_getElem? hu)) with ⟨e, h⟩ | ⟨h1, h2⟩
    · exact .inr ⟨_, by rw [h]; rfl⟩
    · exact .inl ⟨by rw [h1]; rfl, h2⟩
theorem sizeW_of {u : GUnit} (h : sizeU u) : sizeW u := ⟨by have := h.1; omega, by have := h.2; omega⟩
theorem unitsOk_of {l : List GUnit} (h : unitsE l = 0) (hl : l.length ≤ 8) : unitsOk (nonNil (l.map ownU)) := by
  have e : (nonNil (l.map ownU)).getD [] = l.map ownU := nonNil_getD _
  refine ⟨by rw [e, List.length_map]; omega, ?_⟩
  rw [e]
  intro u hu
  obtain ⟨v, hv, rfl⟩ := List.mem_map.1 hu
  exact sizeU_own (unit_size (units_unit h v hv))
theorem gold_ok {l : List GUnit} {g : Int} (hu : unitsE l = 0) (hne : l ≠ []) : maskOk (goldM l g) := by
  obtain ⟨_, n2⟩ := units_lenN hu hne
  exact ⟨by simp; omega, by simp; omega⟩
theorem gold_okO {l : List GUnit} {g : Int} (hu : unitsE l = 0) (hne : l ≠ []) : maskOk (ownM (goldM l g)) := gold_ok hu hne
theorem E18_at {o : Option (List GUnit)} (hu : unitsE (o.getD []) = 0) (hl : (o.getD []).length ≤ 8) : E18 o = some (nonNil ((o.getD []).map ownU)) :=
  exO_of ⟨by omega, fun u h => (unit_size (units_unit hu u h)).2⟩
theorem E17_at {l : List GUnit} {g : Int} (hu : unitsE l = 0) (hl : l.length ≤ 8) (hne : l ≠ []) (hw : winU l) (h0 : 0 ≤ g) (h1 : g ≤ 255) : E17 (nonNil (l.map ownU)) g = some (goldM l g, 0) := by
  have e : (nonNil (l.map ownU)).getD [] = l.map ownU := nonNil_getD _
  unfold E17
  rw [exO_of (unitsOk_of hu hl), e, learnM_own, learnE_own, learnM_gold hu hne hw h0 h1, learn_ok hu hne h0 h1]
theorem E20_at {l : List GUnit} {g : Int} (hu : unitsE l = 0) (hne : l ≠ []) : E20 (goldM l g) = some (ownM (goldM l g)) := exO_of (gold_ok hu hne)
theorem E25_at {l : List GUnit} {g : Int} (hu : unitsE l = 0) (hne : l ≠ []) (hw : winU l) (h0 : 0 ≤ g) (h1 : g ≤ 255) : E25 (goldM l g) = some 0 := by
  unfold E25; rw [exO_of (gold_ok hu hne), gold_mask hu hne hw h0 h1]
theorem E34_at {l : List GUnit} {g : Int} (hu : unitsE l = 0) (hl : l.length ≤ 8) (hne : l ≠ []) (hw : winU l) (h0 : 0 ≤ g) (h1 : g ≤ 255) : E34 (ownM (goldM l g)) (nonNil (l.map ownU)) = some (⟨1, 1⟩, 0) := by
  have e : (nonNil (l.map ownU)).getD [] = l.map ownU := nonNil_getD _
  unfold E34
  rw [exO_of ⟨gold_okO hu hne, unitsOk_of hu hl⟩, e, yieldV_own, yieldE_own]
  obtain ⟨h2, h3⟩ := gold_yield hu hne hw h0 h1
  rw [h2, h3]
theorem stepU_more {n0 : Int} {seen seen' : List (List UInt8)} {u : GUnit} (hs : ∀ x ∈ seen', x ∈ seen) (h : stepU n0 seen u = 0) : stepU n0 seen' u = 0 := by
  have h1 := firstNZ_zero h _ (List.mem_cons_self ..)
  have h2 := firstNZ_zero h _ (List.mem_cons_of_mem _ (List.mem_cons_self ..))
  have h3 := whenE_zero (by decide) (firstNZ_zero h _ (List.mem_cons_of_mem _ (List.mem_cons_of_mem _ (List.mem_cons_self ..))))
  simp only [decide_eq_false_iff_not] at h3
  have h4 : ¬ u.serial ∈ seen' := fun hh => h3 (hs _ hh)
  unfold stepU
  rw [h1, h2]
  simp [firstNZ, whenE, h4]
theorem firstU_more {n0 : Int} : ∀ {l : List GUnit} {seen seen' : List (List UInt8)}, (∀ x ∈ seen', x ∈ seen) → firstU n0 seen l = 0 → firstU n0 seen' l = 0
  | [], _, _, _, _ => rfl
  | u :: l, seen, seen', hs, h => by
    simp only [firstU] at h ⊢
    by_cases hz : stepU n0 seen u = 0
    · rw [if_pos hz] at h
      rw [if_pos (stepU_more hs hz)]
      exact firstU_more (fun x hx => by
        rcases List.mem_append.1 hx with hx | hx
        · exact List.mem_append_left _ (hs x hx)
        · exact List.mem_append_right _ hx) h
    · rw [if_neg hz] at h; exact absurd h hz
theorem units_tail {u : GUnit} {l : List GUnit} (h : unitsE (u :: l) = 0) (hne : l ≠ []) : unitsE l = 0 ∧ lenN l = lenN (u :: l) := by
  have hlen : lenN l = lenN (u :: l) := by
    cases l with
    | nil => exact absurd rfl hne
    | cons v l => exact units_len h v (by simp)
  refine ⟨?_, hlen⟩
  have h64 : (u :: l).length ≤ 64 := by
    unfold unitsE at h
    by_cases h64 : (u :: l).length ≤ 64
    · exact h64
    · rw [if_neg h64] at h; cases h
  have h64' : l.length ≤ 64 := by simp at h64; omega
  unfold unitsE at h ⊢
  rw [if_pos h64] at h
  rw [if_pos h64']
  have hl0 : len0 l = len0 (u :: l) := by
    cases l with
    | nil => exact absurd rfl hne
    | cons v l =>
      show lenU v = lenU u
      unfold lenU
      have := hlen
      simp only [lenN] at this
      omega
  rw [hl0]
  simp only [firstU] at h
  by_cases hz : stepU (len0 (u :: l)) [] u = 0
  · rw [if_pos hz] at h
    exact firstU_more (by simp) h
  · rw [if_neg hz] at h; exact absurd h hz
set_option maxHeartbeats 4000000 in
theorem golden_true (o : Option (List GUnit)) (a1 a2 : Int) (hs : ∀ u ∈ o.getD [], sizeW u) (h0 : 0 ≤ a1) (h1 : a1 ≤ 255) (h2 : 0 ≤ a2) (h3 : a2 ≤ 255) : f7 o a1 a2 = some true := by
  have w1 : wrapF .i64 a1 = a1 := wrapF_i64 (by omega) (by omega)
  have w2 : wrapF .i64 a2 = a2 := wrapF_i64 (by omega) (by omega)
  unfold f7
  simp only [E14, obind_at, cond_true]
  by_cases hz : ((o.getD []).length : Int) = 0
  · simp [hz]
  · by_cases h8 : (8 : Int) < ((o.getD []).length : Int)
    · simp only [hz, h8, decide_true, decide_false, cond_true, cond_false]
    · have hl : (o.getD []).length ≤ 8 := by omega
      have hne : o.getD [] ≠ [] := fun hh => hz (by rw [hh]; rfl)
      have e22 : E22 o = some (unitsE (o.getD [])) := exO_of ⟨by omega, hs⟩
      simp only [hz, h8, decide_false, cond_false, e22, obind_at]
      by_cases hu : unitsE (o.getD []) = 0
      · obtain ⟨b, hb, hwin⟩ := f54_some o hl fun u h => (unit_sizes (units_unit hu u h)).2.2
        simp only [hu, decide_true, cond_true, hb, obind_at]
        cases b with
        | false => rfl
        | true =>
          have hw := hwin rfl
          obtain ⟨n1, n2⟩ := units_lenN hu hne
          have hr : remO (wrapF .i64 a2) 100 = some (a2.tmod 100) := by rw [w2]; rfl
          have hc : wrapF .i64 (1 + a2.tmod 100) = 1 + a2.tmod 100 := by
            rw [Int.tmod_eq_emod_of_nonneg h2]
            exact wrapF_i64 (by omega) (by omega)
          have c1 : 1 ≤ 1 + a2.tmod 100 := by rw [Int.tmod_eq_emod_of_nonneg h2]; omega
          have c2 : 1 + a2.tmod 100 ≤ 100 := by rw [Int.tmod_eq_emod_of_nonneg h2]; omega
          obtain ⟨g1, g2, g3⟩ := narrow_gold hu hne hw h0 h1
          have e19 : E19 (ownM (goldM (o.getD []) a1)) a1 = some (narrowedM (ownM (goldM (o.getD []) a1)) a1, 0) := by
            unfold E19; rw [exO_of (gold_okO hu hne), g1]
          have e30 : E30 (narrowedM (ownM (goldM (o.getD []) a1)) a1) (goldM (o.getD []) 0) = some true := by
            unfold E30
            rw [exO_of ⟨by rw [g2]; exact (gold_ok hu hne).1, by rw [g3]; exact (gold_ok hu hne).2⟩, g2, g3]
            simp
          obtain ⟨u0, hu0⟩ : ∃ u0, (o.getD [])[0]? = some u0 := ⟨_, List.getElem?_eq_getElem (by omega)⟩
          have hu0l : (u0.values.getD []).length = lenN (o.getD []) := units_len hu u0 (List.mem_of_getElem? hu0)
          have i0 : idxO (o.getD []) 0 = some u0 := by rw [show (0 : Int) = ((0 : Nat) : Int) from rfl, idxO_nat]; exact hu0
          have z0 : wrapF .i64 (wrapF .i64 (wrapF .i64 (0 + 0) + 0) + 0) = 0 := by decide
          have lA : ((goldM (o.getD []) a1).least.getD []).length = lenN (o.getD []) := by simp
          have lB : ((goldM (o.getD []) 0).least.getD []).length = lenN (o.getD []) := by simp
          simp only [hr, w1, E18_at hu hl, E17_at hu hl hne hw h0 h1, E17_at hu hl hne hw (Int.le_refl 0) (by omega), E20_at hu hne, e19, E34_at hu hl hne hw h0 h1, obind_at, z0, decide_true, cond_true, E25_at hu hne hw h0 h1, E25_at hu hne hw (Int.le_refl 0) (by omega), e30, Bool.and_self, i0, lA, lB, hu0l]
          have hloop : itO (s7_0 o a1 (a2.tmod 100) (goldM (o.getD []) a1, 0) (goldM (o.getD []) 0, 0) (narrowedM (ownM (goldM (o.getD []) a1)) a1, 0) (⟨1, 1⟩, 0)) 0 = some (.inr ((o.getD []).length : Int)) := by
            refine itO_thru _ _ ?_ ?_
            · unfold s7_0; simp
            · intro i hi
              obtain ⟨u, hui⟩ : ∃ u, (o.getD [])[i]? = some u := ⟨_, List.getElem?_eq_getElem hi⟩
              have hm := List.mem_of_getElem? hui
              have hsz := unit_size (units_unit hu u hm)
              have e32 : E32 u = some (ownU u) := exO_of hsz.2
              have e31 : E31 (ownM (goldM (o.getD []) 0)) (ownU u) = some (none, 0) := by
                unfold E31
                rw [exO_of ⟨gold_okO hu hne, sizeU_own hsz⟩, failuresM_own]
                have ht := gold_tested hu hw hm (Int.le_refl 0) (by omega)
                unfold failuresM
                rw [if_pos ht, gold_fails hu hm (Int.le_refl 0), show testedE (ownM (goldM (o.getD []) 0)) (ownU u) = testedE (goldM (o.getD []) 0) u from rfl, ht]
                rfl
              have e33 : ∀ g, 0 ≤ g → g ≤ 255 → E33 (ownM (goldM (o.getD []) g)) (ownU u) (1 + a2.tmod 100) = some (gradeL (goldM (o.getD []) g) (1 + a2.tmod 100) 0 0 (u.values.getD []), 0) := by
                intro g hg0 hg1
                unfold E33
                rw [exO_of ⟨gold_okO hu hne, sizeU_own hsz⟩, gradedN_own, gradedE_own]
                obtain ⟨k1, k2⟩ := gold_graded hu hw hm hg0 hg1 c1 c2
                rw [k1, k2]
              have q1 := gradeL_in (m := goldM (o.getD []) 0) (cls := 1 + a2.tmod 100) (u.values.getD []) 0 0 (Int.le_refl 0) (by omega)
              have q2 := gradeL_in (m := goldM (o.getD []) a1) (cls := 1 + a2.tmod 100) (u.values.getD []) 0 0 (Int.le_refl 0) (by omega)
              have q3 := gold_grades (g := a1) (cls := 1 + a2.tmod 100) hu hm h0 c1
              have hlt : (i : Int) < ((o.getD []).length : Int) := by omega
              unfold s7_0
              have t1 : ¬ gradeL (goldM (o.getD []) 0) (1 + a2.tmod 100) 0 0 (u.values.getD []) < 0 := by omega
              have t2 : ¬ 1 + a2.tmod 100 ≤ gradeL (goldM (o.getD []) 0) (1 + a2.tmod 100) 0 0 (u.values.getD []) := by omega
              have t3 : ¬ gradeL (goldM (o.getD []) a1) (1 + a2.tmod 100) 0 0 (u.values.getD []) < 0 := by omega
              have t4 : ¬ gradeL (goldM (o.getD []) 0) (1 + a2.tmod 100) 0 0 (u.values.getD []) < gradeL (goldM (o.getD []) a1) (1 + a2.tmod 100) 0 0 (u.values.getD []) := by omega
              simp only [hlt, decide_true, decide_false, cond_true, cond_false, idxO_nat, hui, obind_at, E20_at hu hne, e32, e31, hc, e33 0 (Int.le_refl 0) (by omega), e33 a1 h0 h1, Option.getD_none, List.length_nil, Int.natCast_zero, t1, t2, t3, t4, wrap_nat (show i < 9223372036854775807 by omega)]
          simp only [hloop, obind_at]
          by_cases hone : ((o.getD []).length : Int) < 2
          · simp [hone]
          · obtain ⟨l, hol⟩ : ∃ l, o = some l := by
              cases o with
              | none => exact absurd rfl hne
              | some l => exact ⟨l, rfl⟩
            subst hol
            simp only [Option.getD_some] at *
            cases l with
            | nil => exact absurd rfl hne
            | cons u l =>
              have hl1 : l ≠ [] := fun hh => by subst hh; simp at hone
              obtain ⟨tu, tl⟩ := units_tail hu hl1
              have tw : winU l := fun v hv => hw v (List.mem_cons_of_mem _ hv)
              have hcut : cutSO (some (u :: l)) (some 1) none = some (some l) := by
                unfold cutSO cutO bndI
                simp only [Option.getD_some, List.length_cons]
                rw [if_pos ⟨by decide, by omega⟩]
                simp
              have hq : quoO .i64 a1 2 = some (a1 / 2) := by
                unfold quoO
                rw [if_neg (by decide), Int.tdiv_eq_ediv_of_nonneg h0, wrapF_i64 (by omega) (by omega)]
              have tl8 : l.length ≤ 8 := by simp at hl; omega
              have e18 : E18 (some l) = some (nonNil (l.map ownU)) := E18_at (o := some l) tu tl8
              have e17 : E17 (nonNil (l.map ownU)) (a1 / 2) = some (goldM l (a1 / 2), 0) := E17_at tu tl8 hl1 tw (by omega) (by omega)
              have lC : ((goldM l (a1 / 2)).least.getD []).length = lenN (u :: l) := by simp [tl]
              have lD : ((goldM l (a1 / 2)).most.getD []).length = lenN (u :: l) := by simp [tl]
              simp only [hone, decide_false, cond_false, hcut, obind_at, e18, hq, e17, decide_true, cond_true, lC, lD]
              have hloop2 : itO (s7_1 (goldM (u :: l) a1, 0) (goldM (u :: l) 0, 0) (narrowedM (ownM (goldM (u :: l) a1)) a1, 0) (⟨1, 1⟩, 0) (goldM l (a1 / 2), 0)) 0 = some (.inr ((lenN (u :: l) : Nat) : Int)) := by
                refine itO_thru _ _ ?_ ?_
                · unfold s7_1; simp
                · intro t ht
                  have htl : t < lenN l := by rw [tl]; exact ht
                  have k1 : ((goldM (u :: l) a1).least.getD [])[t]? = some (minL (col t (u :: l)) - a1) := by simp [ht]
                  have k2 : ((goldM (u :: l) a1).most.getD [])[t]? = some (maxL (col t (u :: l)) + a1) := by simp [ht]
                  have k3 : ((goldM l (a1 / 2)).least.getD [])[t]? = some (minL (col t l) - a1 / 2) := by simp [htl]
                  have k4 : ((goldM l (a1 / 2)).most.getD [])[t]? = some (maxL (col t l) + a1 / 2) := by simp [htl]
                  have m1 : minL (col t (u :: l)) ≤ minL (col t l) := minL_le (List.mem_cons_of_mem _ (minL_mem (col_ne hl1)))
                  have m2 : maxL (col t l) ≤ maxL (col t (u :: l)) := le_maxL (List.mem_cons_of_mem _ (maxL_mem (col_ne hl1)))
                  have hlt : (t : Int) < ((lenN (u :: l) : Nat) : Int) := by omega
                  unfold s7_1
                  have r1 : ¬ minL (col t l) - a1 / 2 < minL (col t (u :: l)) - a1 := by omega
                  have r2 : ¬ maxL (col t (u :: l)) + a1 < maxL (col t l) + a1 / 2 := by omega
                  simp only [lA, hlt, decide_true, decide_false, cond_true, cond_false, idxO_nat, k1, k2, k3, k4, obind_at, r1, r2, wrap_nat (show t < 9223372036854775807 by omega)]
              simp only [hloop2, obind_at]
      · simp [hu]
theorem I7 (o : Option (List GUnit)) (a1 a2 : Int) (hs : ∀ u ∈ o.getD [], sizeW u) (h0 : 0 ≤ a1) (h1 : a1 ≤ 255) (h2 : 0 ≤ a2) (h3 : a2 ≤ 255) : callIso pr (X pr) 7 [sl 2 vunit o, .int .u8 a1, .int .u8 a2] = some (.bool true, false) := W7 (golden_true o a1 a2 hs h0 h1 h2 h3)
end Go.Z
