/-
  LineMasks: its run gives true.
-/
import Derived.Test.YtbkpojiedkhfkaaGreatL11

set_option linter.unusedVariables false
set_option linter.unusedSimpArgs false

set_option maxRecDepth 100000
set_option linter.unusedSimpArgs false
namespace Go.Z
open Go Go.Abs

/-! ### Units with lists of their own are checked as the units are -/
theorem nonNil_getD {α : Type} (l : List α) : (nonNil l).getD [] = l := by cases l <;> rfl
theorem firstU_own (n0 : Int) : ∀ (l : List GUnit) (seen : List (List UInt8)), firstU n0 seen (l.map ownU) = firstU n0 seen l
  | [], _ => rfl
  | u :: l, seen => by
    simp only [List.map_cons, firstU]
    rw [show stepU n0 seen (ownU u) = stepU n0 seen u from rfl, show (ownU u).serial = u.serial from rfl, firstU_own n0 l]
theorem len0_own : ∀ l : List GUnit, len0 (l.map ownU) = len0 l
  | [] => rfl
  | _ :: _ => rfl
theorem lenN_own : ∀ l : List GUnit, lenN (l.map ownU) = lenN l
  | [] => rfl
  | _ :: _ => rfl
theorem unitsE_own (l : List GUnit) : unitsE (l.map ownU) = unitsE l := by
  unfold unitsE
  rw [List.length_map, len0_own, firstU_own]
theorem learnE_own (l : List GUnit) (g : Int) : learnE (l.map ownU) g = learnE l g := by
  unfold learnE
  rw [List.length_map, unitsE_own]
theorem col_own (t : Nat) (l : List GUnit) : col t (l.map ownU) = col t l := by
  unfold col
  rw [List.map_map]
  rfl
theorem learnedM_own (l : List GUnit) (g : Int) : learnedM (l.map ownU) g = learnedM l g := by
  unfold learnedM
  simp only [lenN_own, col_own]
theorem learnM_own (l : List GUnit) (g : Int) : learnM (l.map ownU) g = learnM l g := by
  unfold learnM
  rw [learnE_own, learnedM_own]
def ownM (m : GMask) : GMask := ⟨ownI m.least, ownI m.most⟩
theorem sizeU_own {u : GUnit} (h : sizeU u) : sizeU (ownU u) := h

theorem I14 : callIso pr (X pr) 14 [] = some (.bool true, false) := rfl

theorem shortUs_sizes {l : List GUnit} (h : shortUs l 10 = true) : l.length ≤ 65 ∧ ∀ u ∈ l, u.serial.length ≤ 60 ∧ (u.values.getD []).length ≤ 17 := by
  unfold shortUs at h
  split at h
  · cases h
  · next hh =>
    refine ⟨?_, fun u hu => ?_⟩
    · by_cases h65 : l.length = 65
      · omega
      · have : ¬ ((l.length : Int) > 10) := fun hgt => hh ⟨hgt, h65⟩
        omega
    · have := List.all_eq_true.1 h u hu
      simp only [shortU, Bool.and_eq_true, decide_eq_true_eq] at this
      exact this

theorem I3 (o : Option (List GUnit)) (m : GMask) (n0 n1 : Int) : callIso pr (X pr) 3 [sl 2 vunit o, .agg [sl 1 vint m.least, sl 1 vint m.most], .agg [.int .i64 n0, .int .i64 n1]] = some (.bool true, false) := by
  have h15 := I15 o 10 (by decide)
  have h16 := I16 m
  have : ∃ hh, callFn pr (X pr) 3 [sl 2 vunit o, .agg [sl 1 vint m.least, sl 1 vint m.most], .agg [.int .i64 n0, .int .i64 n1]] [] = some (.bool true, false, hh) := by
    rw [callFn_at (show pr.fns 3 = some c3 from rfl) (by simp)]
    by_cases hu : shortUs (o.getD []) 10 = true
    · by_cases hm : shortM m = true
      · obtain ⟨hlen, hsz⟩ := shortUs_sizes hu
        simp only [shortM, Bool.and_eq_true, decide_eq_true_eq] at hm
        have hs : ∀ u ∈ o.getD [], sizeU u := fun u hu => ⟨by have := (hsz u hu).1; omega, by have := (hsz u hu).2; omega⟩
        have hl : (o.getD []).length ≤ 1073741824 := by omega
        have ho : (nonNil ((o.getD []).map ownU)).getD [] = (o.getD []).map ownU := nonNil_getD _
        have hlo : ((nonNil ((o.getD []).map ownU)).getD []).length ≤ 1073741824 := by rw [ho, List.length_map]; exact hl
        have hso : ∀ u ∈ (nonNil ((o.getD []).map ownU)).getD [], sizeU u := by
          rw [ho]; intro u hu'
          obtain ⟨v, hv, rfl⟩ := List.mem_map.1 hu'
          exact sizeU_own (hs v hv)
        have h18 := I18 o hl (fun u hu' => (hs u hu').2)
        have h17 := I17 (nonNil ((o.getD []).map ownU)) n0 hlo hso
        rw [ho, learnM_own, learnE_own] at h17
        have h28 := I28 (nonNil ((o.getD []).map ownU)) hlo hso
        rw [ho, unitsE_own] at h28
        have h22 := I22 o hl hs
        have hm1 : (m.least.getD []).length ≤ 1073741824 := by omega
        have hm2 : (m.most.getD []).length ≤ 1073741824 := by omega
        have h20 : callIso pr (X pr) 20 [.agg [sl 1 vint m.least, sl 1 vint m.most]] = some (.agg [sl 1 vint (ownI m.least), sl 1 vint (ownI m.most)], false) := I20 m hm1 hm2
        have h19 : callIso pr (X pr) 19 [.agg [sl 1 vint (ownI m.least), sl 1 vint (ownI m.most)], .int .i64 n1] = some (.tup [.agg [sl 1 vint (narrowedM (ownM m) n1).least, sl 1 vint (narrowedM (ownM m) n1).most], .int .i64 (narrowedE m n1)], false) := I19 (ownM m) n1 hm1 hm2
        have h29 : callIso pr (X pr) 29 [.agg [sl 1 vint (ownI m.least), sl 1 vint (ownI m.most)]] = some (.int .i64 (maskE m), false) := I29 (ownM m) hm1
        have h25 := I25 m hm1
        have hone : firstNZ [unitsE (o.getD []), checkRange n0 0 100000, whenE (decide (((o.getD []).length : Int) = 0)) 12] = learnE (o.getD []) n0 := rfl
        have htwo : firstNZ [maskE m, checkRange n1 0 100000] = narrowE m n1 := rfl
        have hm' : shortM m = true := by simp [shortM, hm.1, hm.2]
        -- what both masks are
        obtain ⟨A, hA, hA1, hA2⟩ : ∃ A, learnM (o.getD []) n0 = A ∧ (A.least.getD []).length ≤ 1073741824 ∧ (A.most.getD []).length ≤ 1073741824 := by
          refine ⟨_, rfl, ?_, ?_⟩ <;>
          · unfold learnM
            split
            · simp only [learnedM, nonNil_getD, List.length_map, List.length_range]
              cases hc : o.getD [] with
              | nil => simp [lenN]
              | cons a l => have := (hs a (by rw [hc]; exact List.mem_cons_self ..)).2; simpa [lenN] using this
            · simp
        obtain ⟨B, hB, hB1, hB2⟩ : ∃ B, narrowedM (ownM m) n1 = B ∧ (B.least.getD []).length ≤ 1073741824 ∧ (B.most.getD []).length ≤ 1073741824 := by
          refine ⟨_, rfl, ?_, ?_⟩ <;>
          · unfold narrowedM narM'
            split
            · split
              · simp
              · simp only [Option.getD_some, List.length_map]; assumption
            · simp
        rw [hA] at h17
        rw [hB] at h19
        have h30r : ∀ (X1 X2 : Option (List Int)) (Y : GMask), (Y.least.getD []).length ≤ 1073741824 → (Y.most.getD []).length ≤ 1073741824 → Y.least.getD [] = X1.getD [] → Y.most.getD [] = X2.getD [] → callIso pr (X pr) 30 [.agg [sl 1 vint Y.least, sl 1 vint Y.most], .agg [sl 1 vint X1, sl 1 vint X2]] = some (.bool true, false) := by
          intro X1 X2 Y k1 k2 k3 k4
          rw [show (.agg [sl 1 vint X1, sl 1 vint X2] : AVal) = .agg [sl 1 vint (GMask.mk X1 X2).least, sl 1 vint (GMask.mk X1 X2).most] from rfl, I30 Y ⟨X1, X2⟩ k1 k2]
          simp [k3, k4]
        by_cases hz1 : learnE (o.getD []) n0 = 0
        · have h26 := I26 o n0 hl hs hz1
          have hA' : A = learnedM (o.getD []) n0 := by rw [← hA]; exact if_pos hz1
          have h30a := h30r (learnedM (o.getD []) n0).least (learnedM (o.getD []) n0).most A hA1 hA2 (by rw [hA']) (by rw [hA'])
          by_cases hz2 : narrowE m n1 = 0
          · have h27 := I27 m n1 hm1 (maskE_len (narrowE_mask hz2))
            have hE : narrowedE m n1 = narE m n1 := if_pos hz2
            have hB' : B = narM' m n1 := by rw [← hB]; exact if_pos hz2
            have h30b := h30r (narM m n1).least (narM m n1).most B hB1 hB2 (by rw [hB']; unfold narM narM'; split <;> simp [nonNil_getD]) (by rw [hB']; unfold narM narM'; split <;> simp [nonNil_getD])
            rw [hE] at h19
            simp only [go_sem, c3, I14, h15, hu, h16, hm', h18, h17, h20, h19, h22, I23, I24, I21_3, h25, I21_2, hone, htwo, hz1, hz2, h26, h27, h28, h29, h30a, h30b, reduceIte, Nat.reduceEqDiff, Nat.reduceAdd, Nat.reduceSub, Nat.reduceLT, Nat.reduceLeDiff, Nat.reduceMul, Int.reduceLT, Int.reduceLE, Int.reduceEq, Int.reduceNe, Int.reduceAdd, Int.reduceSub, Int.reduceNeg, Int.reduceMul]
            exact ⟨_, rfl⟩
          · have hE : narrowedE m n1 = narrowE m n1 := if_neg hz2
            have hB' : B = ⟨none, none⟩ := by rw [← hB]; exact if_neg hz2
            have h30b : callIso pr (X pr) 30 [.agg [sl 1 vint B.least, sl 1 vint B.most], .agg [.list true 0 [], .list true 0 []]] = some (.bool true, false) := h30r none none B hB1 hB2 (by rw [hB']) (by rw [hB'])
            rw [hE] at h19
            simp only [go_sem, c3, I14, h15, hu, h16, hm', h18, h17, h20, h19, h22, I23, I24, I21_3, h25, I21_2, hone, htwo, hz1, hz2, h26, h28, h29, h30a, h30b, reduceIte, Nat.reduceEqDiff, Nat.reduceAdd, Nat.reduceSub, Nat.reduceLT, Nat.reduceLeDiff, Nat.reduceMul, Int.reduceLT, Int.reduceLE, Int.reduceEq, Int.reduceNe, Int.reduceAdd, Int.reduceSub, Int.reduceNeg, Int.reduceMul]
            exact ⟨_, rfl⟩
        · have hA' : A = ⟨none, none⟩ := by rw [← hA]; exact if_neg hz1
          have h30a : callIso pr (X pr) 30 [.agg [sl 1 vint A.least, sl 1 vint A.most], .agg [.list true 0 [], .list true 0 []]] = some (.bool true, false) := h30r none none A hA1 hA2 (by rw [hA']) (by rw [hA'])
          by_cases hz2 : narrowE m n1 = 0
          · have h27 := I27 m n1 hm1 (maskE_len (narrowE_mask hz2))
            have hE : narrowedE m n1 = narE m n1 := if_pos hz2
            have hB' : B = narM' m n1 := by rw [← hB]; exact if_pos hz2
            have h30b := h30r (narM m n1).least (narM m n1).most B hB1 hB2 (by rw [hB']; unfold narM narM'; split <;> simp [nonNil_getD]) (by rw [hB']; unfold narM narM'; split <;> simp [nonNil_getD])
            rw [hE] at h19
            simp only [go_sem, c3, I14, h15, hu, h16, hm', h18, h17, h20, h19, h22, I23, I24, I21_3, h25, I21_2, hone, htwo, hz1, hz2, h27, h28, h29, h30a, h30b, reduceIte, Nat.reduceEqDiff, Nat.reduceAdd, Nat.reduceSub, Nat.reduceLT, Nat.reduceLeDiff, Nat.reduceMul, Int.reduceLT, Int.reduceLE, Int.reduceEq, Int.reduceNe, Int.reduceAdd, Int.reduceSub, Int.reduceNeg, Int.reduceMul]
            exact ⟨_, rfl⟩
          · have hE : narrowedE m n1 = narrowE m n1 := if_neg hz2
            have hB' : B = ⟨none, none⟩ := by rw [← hB]; exact if_neg hz2
            have h30b : callIso pr (X pr) 30 [.agg [sl 1 vint B.least, sl 1 vint B.most], .agg [.list true 0 [], .list true 0 []]] = some (.bool true, false) := h30r none none B hB1 hB2 (by rw [hB']) (by rw [hB'])
            rw [hE] at h19
            simp only [go_sem, c3, I14, h15, hu, h16, hm', h18, h17, h20, h19, h22, I23, I24, I21_3, h25, I21_2, hone, htwo, hz1, hz2, h28, h29, h30a, h30b, reduceIte, Nat.reduceEqDiff, Nat.reduceAdd, Nat.reduceSub, Nat.reduceLT, Nat.reduceLeDiff, Nat.reduceMul, Int.reduceLT, Int.reduceLE, Int.reduceEq, Int.reduceNe, Int.reduceAdd, Int.reduceSub, Int.reduceNeg, Int.reduceMul]
            exact ⟨_, rfl⟩
      · have hm' : shortM m = false := by simpa using hm
        simp only [go_sem, c3, I14, h15, hu, h16, hm', reduceIte, Nat.reduceEqDiff, Nat.reduceAdd, Nat.reduceSub, Nat.reduceLT, Nat.reduceLeDiff, Nat.reduceMul, Int.reduceLT, Int.reduceLE, Int.reduceEq, Int.reduceNe, Int.reduceAdd, Int.reduceSub, Int.reduceNeg, Int.reduceMul]
        exact ⟨_, rfl⟩
    · have hu' : shortUs (o.getD []) 10 = false := by simpa using hu
      simp only [go_sem, c3, I14, h15, hu', reduceIte, Nat.reduceEqDiff, Nat.reduceAdd, Nat.reduceSub, Nat.reduceLT, Nat.reduceLeDiff, Nat.reduceMul, Int.reduceLT, Int.reduceLE, Int.reduceEq, Int.reduceNe, Int.reduceAdd, Int.reduceSub, Int.reduceNeg, Int.reduceMul]
      exact ⟨_, rfl⟩
  obtain ⟨hh, this⟩ := this
  exact callIso_of rfl this rfl rfl

end Go.Z
