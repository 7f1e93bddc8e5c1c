/-
  LineTests: its run gives true.
-/
import Derived.Test.YtbkpojiedkhfkaaGreatL16

set_option linter.unusedVariables false
set_option linter.unusedSimpArgs false

set_option maxRecDepth 100000
set_option linter.unusedSimpArgs false
namespace Go.Z
open Go Go.Abs

theorem whenE_f {e : Int} : whenE false e = 0 := rfl
theorem whenE_t {e : Int} : whenE true e = e := rfl
theorem failsL_own (m : GMask) : ∀ (l : List Int) (i : Nat), failsL (ownM m) i l = failsL m i l
  | [], _ => rfl
  | v :: l, i => by
    simp only [failsL]
    rw [show failsAt (ownM m) i v = failsAt m i v from rfl, failsL_own m l]
theorem gradeL_own (m : GMask) (cls : Int) : ∀ (l : List Int) (i : Nat) (g : Int), gradeL (ownM m) cls i g l = gradeL m cls i g l
  | [], _, _ => rfl
  | v :: l, i, g => by
    simp only [gradeL]
    rw [show loM (ownM m) i = loM m i from rfl, show hiM (ownM m) i = hiM m i from rfl, gradeL_own m cls l]
theorem failsL_len (m : GMask) : ∀ (l : List Int) (i : Nat), (failsL m i l).length ≤ l.length
  | [], _ => Nat.le_refl _
  | v :: l, i => by
    have := failsL_len m l (i + 1)
    simp only [failsL]
    split <;> simp only [List.length_cons] <;> omega
theorem failuresM_own (m : GMask) (u : GUnit) : failuresM (ownM m) (ownU u) = failuresM m u := by
  unfold failuresM
  rw [show testedE (ownM m) (ownU u) = testedE m u from rfl, failsL_own]
  rfl
theorem gradedE_own (m : GMask) (u : GUnit) (cls : Int) : gradedE (ownM m) (ownU u) cls = gradedE m u cls := by
  unfold gradedE
  rw [show gradeE (ownM m) (ownU u) cls = gradeE m u cls from rfl, failsL_own]
  rfl
theorem gradedN_own (m : GMask) (u : GUnit) (cls : Int) : gradedN (ownM m) (ownU u) cls = gradedN m u cls := by
  unfold gradedN
  rw [show gradeE (ownM m) (ownU u) cls = gradeE m u cls from rfl, failsL_own, gradeL_own]
  rfl
theorem yieldN_own (m : GMask) (l : List GUnit) : yieldN (ownM m) (l.map ownU) = yieldN m l := by
  unfold yieldN
  rw [List.countP_map]
  congr 1
  funext u
  simp only [Function.comp, passB]
  rw [failsL_own]
  rfl
theorem yieldA_own (m : GMask) (l : List GUnit) : yieldA (ownM m) (l.map ownU) = yieldA m l := by
  unfold yieldA
  rw [unitsE_own]
  rfl
theorem yieldE_own (m : GMask) (l : List GUnit) : yieldE (ownM m) (l.map ownU) = yieldE m l := by
  unfold yieldE
  rw [yieldA_own, lenN_own]
  simp only [List.map_eq_nil_iff]
  rfl
theorem yieldV_own (m : GMask) (l : List GUnit) : yieldV (ownM m) (l.map ownU) = yieldV m l := by
  unfold yieldV
  rw [yieldE_own, yieldN_own, List.length_map]
theorem numB_self {a e : Int} (h : e ≠ 0 → a = 0) : numB a e e a = true := by
  unfold numB
  by_cases he : e = 0
  · simp [he]
  · simp [he, h he]
theorem ratB_self {a b e : Int} (h : e ≠ 0 → a = 0 ∧ b = 0) : ratB a b e e a b = true := by
  unfold ratB
  by_cases he : e = 0
  · simp [he]
  · obtain ⟨h1, h2⟩ := h he
    simp [he, h1, h2]
theorem gradedN_zero {m : GMask} {u : GUnit} {cls : Int} (h : gradedE m u cls ≠ 0) : gradedN m u cls = 0 := by
  unfold gradedE at h
  unfold gradedN
  by_cases hz : gradeE m u cls = 0
  · rw [if_pos hz] at h ⊢
    by_cases hf : failsL m 0 (u.values.getD []) = []
    · rw [if_pos hf] at h; exact absurd rfl h
    · rw [if_neg hf]
  · rw [if_neg hz]
theorem yieldV_zero {m : GMask} {l : List GUnit} (h : yieldE m l ≠ 0) : (yieldV m l).1 = 0 ∧ (yieldV m l).2 = 0 := by
  unfold yieldV
  rw [if_neg h]
  exact ⟨rfl, rfl⟩
theorem sl_none {α : Type} {z : Nat} {f : α → AVal} : sl z f none = .list true 0 [] := rfl
theorem unitE_zero : unitE ⟨[], none⟩ ≠ 0 := by decide

set_option maxHeartbeats 8000000 in
theorem I4 (o : Option (List GUnit)) (m : GMask) (cls : Int) : callIso pr (X pr) 4 [.agg [sl 1 vint m.least, sl 1 vint m.most], sl 2 vunit o, .int .i64 cls] = some (.bool true, false) := by
  have h15 := I15 o 10 (by decide)
  have h16 := I16 m
  have : ∃ hh, callFn pr (X pr) 4 [.agg [sl 1 vint m.least, sl 1 vint m.most], sl 2 vunit o, .int .i64 cls] [] = some (.bool true, false, hh) := by
    rw [callFn_at (show pr.fns 4 = some c4 from rfl) (by simp)]
    by_cases hu : shortUs (o.getD []) 10 = true
    · by_cases hm : shortM m = true
      · obtain ⟨hlen, hsz⟩ := shortUs_sizes hu
        have hm' := hm
        simp only [shortM, Bool.and_eq_true, decide_eq_true_eq] at hm
        have hs : ∀ u ∈ o.getD [], sizeU u := fun u hu => ⟨by have := (hsz u hu).1; omega, by have := (hsz u hu).2; omega⟩
        have hl : (o.getD []).length ≤ 1073741824 := by omega
        have ho : (nonNil ((o.getD []).map ownU)).getD [] = (o.getD []).map ownU := nonNil_getD _
        have hlo : ((nonNil ((o.getD []).map ownU)).getD []).length ≤ 1073741824 := by rw [ho, List.length_map]; exact hl
        have hso : ∀ u ∈ (nonNil ((o.getD []).map ownU)).getD [], sizeU u := by
          rw [ho]; intro u hu'
          obtain ⟨v, hv, rfl⟩ := List.mem_map.1 hu'
          exact sizeU_own (hs v hv)
        have h18 := I18 o hl (fun u hu' => (hs u hu').2)
        have hm1 : (m.least.getD []).length ≤ 1073741824 := by omega
        have hm2 : (m.most.getD []).length ≤ 1073741824 := by omega
        have h20 : callIso pr (X pr) 20 [.agg [sl 1 vint m.least, sl 1 vint m.most]] = some (.agg [sl 1 vint (ownI m.least), sl 1 vint (ownI m.most)], false) := I20 m hm1 hm2
        have h25 := I25 m hm1
        have h22 := I22 o hl hs
        have h34 : callIso pr (X pr) 34 [.agg [sl 1 vint (ownI m.least), sl 1 vint (ownI m.most)], sl 2 vunit (nonNil ((o.getD []).map ownU))] = some (.tup [.agg [.int .i64 (yieldV m (o.getD [])).1, .int .i64 (yieldV m (o.getD [])).2], .int .i64 (yieldE m (o.getD []))], false) := by
          have := I34 (ownM m) (nonNil ((o.getD []).map ownU)) hm1 hlo hso
          rw [ho, yieldV_own, yieldE_own] at this
          exact this
        have hA : firstNZ [maskE m, unitsE (o.getD [])] = yieldA m (o.getD []) := rfl
        have f20 : firstNZ [2, 0] = 2 := rfl
        have f00 : firstNZ [0, 0] = 0 := rfl
        have f012 : firstNZ [0, 12] = 12 := rfl
        have hA3 : ¬ yieldA m (o.getD []) = 0 → ∀ w, firstNZ [yieldA m (o.getD []), w] = yieldA m (o.getD []) := fun hz w => by simp only [firstNZ, if_neg hz]
        have h41 : callIso pr (X pr) 41 [.agg [.int .i64 (yieldV m (o.getD [])).1, .int .i64 (yieldV m (o.getD [])).2], .int .i64 (yieldE m (o.getD [])), .int .i64 (yieldE m (o.getD [])), .agg [.int .i64 (yieldV m (o.getD [])).1, .int .i64 (yieldV m (o.getD [])).2]] = some (.bool true, false) := by
          rw [I41, ratB_self yieldV_zero]
        have h39n : callIso pr (X pr) 39 [.list true 0 [], .list true 0 []] = some (.bool true, false) := I39 none none (by simp)
        by_cases hl0 : o.getD [] = []
        · have hlen0 : ¬ (0 : Int) < ((o.getD []).length : Int) := by rw [hl0]; decide
          have hlen1 : (((o.getD []).length : Int) = 0) = True := by simp [hl0]
          have hus : sizeU ⟨[], none⟩ := ⟨by simp, by simp⟩
          have h32 : callIso pr (X pr) 32 [.agg [.str [], .list true 0 []]] = some (.agg [.str [], sl 1 vint (ownI none)], false) := I32 ⟨[], none⟩ hus.2
          have h31 : callIso pr (X pr) 31 [.agg [sl 1 vint (ownI m.least), sl 1 vint (ownI m.most)], .agg [.str [], sl 1 vint (ownI none)]] = some (.tup [sl 1 vint (failuresM m ⟨[], none⟩), .int .i64 (testedE m ⟨[], none⟩)], false) := by
            have := I31 (ownM m) (ownU ⟨[], none⟩) hm1 hus
            rw [failuresM_own] at this; exact this
          have h33 : callIso pr (X pr) 33 [.agg [sl 1 vint (ownI m.least), sl 1 vint (ownI m.most)], .agg [.str [], sl 1 vint (ownI none)], .int .i64 cls] = some (.tup [.int .i64 (gradedN m ⟨[], none⟩ cls), .int .i64 (gradedE m ⟨[], none⟩ cls)], false) := by
            have := I33 (ownM m) (ownU ⟨[], none⟩) cls hm1 hus
            rw [gradedN_own, gradedE_own] at this; exact this
          have h35 : callIso pr (X pr) 35 [.agg [sl 1 vint m.least, sl 1 vint m.most], .agg [.str [], .list true 0 []]] = some (.int .i64 (testedE m ⟨[], none⟩), false) := I35 m ⟨[], none⟩ hm1 hus
          have hG : firstNZ [testedE m ⟨[], none⟩, checkRange cls 1 100] = gradeE m ⟨[], none⟩ cls := rfl
          have h40 : callIso pr (X pr) 40 [.int .i64 (gradedN m ⟨[], none⟩ cls), .int .i64 (gradedE m ⟨[], none⟩ cls), .int .i64 (gradedE m ⟨[], none⟩ cls), .int .i64 (gradedN m ⟨[], none⟩ cls)] = some (.bool true, false) := by
            rw [I40, numB_self gradedN_zero]
          have hz : ¬ testedE m ⟨[], none⟩ = 0 := fun h => unitE_zero (testedE_unit h)
          have hg : ¬ gradeE m ⟨[], none⟩ cls = 0 := fun h => hz (gradeE_tested h)
          have e1 : failuresM m ⟨[], none⟩ = none := if_neg hz
          have e2 : gradedE m ⟨[], none⟩ cls = gradeE m ⟨[], none⟩ cls := if_neg hg
          have e3 : gradedN m ⟨[], none⟩ cls = 0 := if_neg hg
          rw [e1] at h31
          rw [e2, e3] at h33 h40
          by_cases hy : yieldA m (o.getD []) = 0
          · have hE : yieldE m (o.getD []) = 12 := by unfold yieldE; rw [if_pos hy, if_pos hl0]
            have hV : yieldV m (o.getD []) = (0, 0) := by unfold yieldV; rw [hE]; rfl
            rw [hE, hV] at h34 h41
            simp only [go_sem, c4, I14, h15, hu, h16, hm', h18, h20, h25, h22, h34, I21_2, I23, I24, whenE_f, whenE_t, hA, f20, f00, f012, h32, h31, h33, h35, hG, h40, hlen0, hlen1, hz, hg, h39n, sl_none, hy, h41, reduceIte, Nat.reduceEqDiff, Nat.reduceAdd, Nat.reduceSub, Nat.reduceLT, Nat.reduceLeDiff, Nat.reduceMul, Int.reduceLT, Int.reduceLE, Int.reduceEq, Int.reduceNe, Int.reduceAdd, Int.reduceSub, Int.reduceNeg, Int.reduceMul]
            exact ⟨_, rfl⟩
          · have hE : yieldE m (o.getD []) = yieldA m (o.getD []) := if_neg hy
            have hV : yieldV m (o.getD []) = (0, 0) := by unfold yieldV; rw [hE, if_neg hy]
            rw [hE, hV] at h34 h41
            have hA3 := hA3 hy
            simp only [go_sem, c4, I14, h15, hu, h16, hm', h18, h20, h25, h22, h34, I21_2, I23, I24, whenE_f, whenE_t, hA, f20, f00, f012, h32, h31, h33, h35, hG, h40, hlen0, hlen1, hz, hg, h39n, sl_none, hA3, hy, h41, reduceIte, Nat.reduceEqDiff, Nat.reduceAdd, Nat.reduceSub, Nat.reduceLT, Nat.reduceLeDiff, Nat.reduceMul, Int.reduceLT, Int.reduceLE, Int.reduceEq, Int.reduceNe, Int.reduceAdd, Int.reduceSub, Int.reduceNeg, Int.reduceMul]
            exact ⟨_, rfl⟩
        · obtain ⟨u0, h0⟩ : ∃ u0, (o.getD [])[0]? = some u0 := by
            cases hc : o.getD [] with
            | nil => exact absurd hc hl0
            | cons a l => exact ⟨a, rfl⟩
          have hne := hl0
          have hlf := len_first h0
          have hpos := List.length_pos_iff.2 hl0
          have hlen0 : (0 : Int) < ((o.getD []).length : Int) := by omega
          have hlen1 : ¬ ((o.getD []).length : Int) = 0 := by omega
          have hus := hs u0 (List.mem_of_getElem? h0)
          have h32 : callIso pr (X pr) 32 [.agg [.str u0.serial, sl 1 vint u0.values]] = some (.agg [.str u0.serial, sl 1 vint (ownI u0.values)], false) := I32 u0 hus.2
          have h31 : callIso pr (X pr) 31 [.agg [sl 1 vint (ownI m.least), sl 1 vint (ownI m.most)], .agg [.str u0.serial, sl 1 vint (ownI u0.values)]] = some (.tup [sl 1 vint (failuresM m u0), .int .i64 (testedE m u0)], false) := by
            have := I31 (ownM m) (ownU u0) hm1 hus
            rw [failuresM_own] at this; exact this
          have h33 : callIso pr (X pr) 33 [.agg [sl 1 vint (ownI m.least), sl 1 vint (ownI m.most)], .agg [.str u0.serial, sl 1 vint (ownI u0.values)], .int .i64 cls] = some (.tup [.int .i64 (gradedN m u0 cls), .int .i64 (gradedE m u0 cls)], false) := by
            have := I33 (ownM m) (ownU u0) cls hm1 hus
            rw [gradedN_own, gradedE_own] at this; exact this
          have h35 : callIso pr (X pr) 35 [.agg [sl 1 vint m.least, sl 1 vint m.most], .agg [.str u0.serial, sl 1 vint u0.values]] = some (.int .i64 (testedE m u0), false) := I35 m u0 hm1 hus
          have hG : firstNZ [testedE m u0, checkRange cls 1 100] = gradeE m u0 cls := rfl
          have h40 : callIso pr (X pr) 40 [.int .i64 (gradedN m u0 cls), .int .i64 (gradedE m u0 cls), .int .i64 (gradedE m u0 cls), .int .i64 (gradedN m u0 cls)] = some (.bool true, false) := by
            rw [I40, numB_self gradedN_zero]
          by_cases hz : testedE m u0 = 0
          · have k1 := testedE_len hz
            have k2 := maskE_len (testedE_mask hz)
            have h36 := I36 m u0 hus.2 k1 (by omega)
            have e1 : failuresM m u0 = nonNil (failsL m 0 (u0.values.getD [])) := if_pos hz
            have h39 := I39 (nonNil (failsL m 0 (u0.values.getD []))) (nonNil (failsL m 0 (u0.values.getD []))) (by rw [nonNil_getD]; have := failsL_len m (u0.values.getD []) 0; have := hus.2; omega)
            rw [e1] at h31
            simp only [decide_true] at h39
            have hG0 : firstNZ [0, checkRange cls 1 100] = gradeE m u0 cls := by simp only [gradeE, hz]
            by_cases hg : gradeE m u0 cls = 0
            · by_cases hf : failsL m 0 (u0.values.getD []) = []
              · have e2 : gradedE m u0 cls = 0 := by unfold gradedE; rw [if_pos hg, if_pos hf]
                have e3 : gradedN m u0 cls = gradeL m cls 0 0 (u0.values.getD []) := by unfold gradedN; rw [if_pos hg, if_pos hf]
                have h37 := I37 m u0 cls hz hus.2 (gradeE_cls hg).1 (gradeE_cls hg).2
                rw [e2, e3] at h33 h40
                have hF : ¬ (0 : Int) < ((((nonNil (failsL m 0 (u0.values.getD []))).getD []).length : Nat) : Int) := by rw [nonNil_getD, hf]; decide
                by_cases hy : yieldA m (o.getD []) = 0
                · by_cases hnn : lenN (o.getD []) = (m.least.getD []).length
                  · have hE : yieldE m (o.getD []) = 0 := by unfold yieldE; rw [if_pos hy, if_neg hne, if_pos hnn]
                    have hV : yieldV m (o.getD []) = (ratN (yieldN m (o.getD [])) (o.getD []).length, ratD (yieldN m (o.getD [])) (o.getD []).length) := by unfold yieldV; rw [if_pos hE]
                    have h38 := I38 m o hne hl (maskE_len (yieldE_zero hE).1) (fun u hu => by rw [units_len (yieldE_zero hE).2.1 u hu, hnn]) hs
                    rw [hE, hV] at h34 h41
                    have hq : (((u0.values.getD []).length : Int) = ((m.least.getD []).length : Int)) = True := by simp [hlf, hnn]
                    simp only [go_sem, c4, I14, h15, hu, h16, hm', h18, h20, h25, h22, h34, I21_2, I23, I24, whenE_f, whenE_t, hA, f20, f00, f012, h32, h31, h33, h35, hG, h40, hlen0, hlen1, idx_sl0 h0, hz, hG0, hg, h36, h37, hF, h39, hy, hq, h38, h41, reduceIte, Nat.reduceEqDiff, Nat.reduceAdd, Nat.reduceSub, Nat.reduceLT, Nat.reduceLeDiff, Nat.reduceMul, Int.reduceLT, Int.reduceLE, Int.reduceEq, Int.reduceNe, Int.reduceAdd, Int.reduceSub, Int.reduceNeg, Int.reduceMul]
                    exact ⟨_, rfl⟩
                  · have hE : yieldE m (o.getD []) = 2 := by unfold yieldE; rw [if_pos hy, if_neg hne, if_neg hnn]
                    have hV : yieldV m (o.getD []) = (0, 0) := by unfold yieldV; rw [hE]; rfl
                    rw [hE, hV] at h34 h41
                    have hq : ¬ ((u0.values.getD []).length : Int) = ((m.least.getD []).length : Int) := by omega
                    simp only [go_sem, c4, I14, h15, hu, h16, hm', h18, h20, h25, h22, h34, I21_2, I23, I24, whenE_f, whenE_t, hA, f20, f00, f012, h32, h31, h33, h35, hG, h40, hlen0, hlen1, idx_sl0 h0, hz, hG0, hg, h36, h37, hF, h39, hy, hq, h41, reduceIte, Nat.reduceEqDiff, Nat.reduceAdd, Nat.reduceSub, Nat.reduceLT, Nat.reduceLeDiff, Nat.reduceMul, Int.reduceLT, Int.reduceLE, Int.reduceEq, Int.reduceNe, Int.reduceAdd, Int.reduceSub, Int.reduceNeg, Int.reduceMul]
                    exact ⟨_, rfl⟩
                · have hE : yieldE m (o.getD []) = yieldA m (o.getD []) := if_neg hy
                  have hV : yieldV m (o.getD []) = (0, 0) := by unfold yieldV; rw [hE, if_neg hy]
                  rw [hE, hV] at h34 h41
                  have hA3 := hA3 hy
                  simp only [go_sem, c4, I14, h15, hu, h16, hm', h18, h20, h25, h22, h34, I21_2, I23, I24, whenE_f, whenE_t, hA, f20, f00, f012, h32, h31, h33, h35, hG, h40, hlen0, hlen1, idx_sl0 h0, hz, hG0, hg, h36, h37, hF, h39, hA3, hy, h41, reduceIte, Nat.reduceEqDiff, Nat.reduceAdd, Nat.reduceSub, Nat.reduceLT, Nat.reduceLeDiff, Nat.reduceMul, Int.reduceLT, Int.reduceLE, Int.reduceEq, Int.reduceNe, Int.reduceAdd, Int.reduceSub, Int.reduceNeg, Int.reduceMul]
                  exact ⟨_, rfl⟩
              · have e2 : gradedE m u0 cls = 31 := by unfold gradedE; rw [if_pos hg, if_neg hf]
                have e3 : gradedN m u0 cls = 0 := by unfold gradedN; rw [if_pos hg, if_neg hf]
                rw [e2, e3] at h33 h40
                have hF : (0 : Int) < ((((nonNil (failsL m 0 (u0.values.getD []))).getD []).length : Nat) : Int) := by rw [nonNil_getD]; have := List.length_pos_iff.2 hf; omega
                by_cases hy : yieldA m (o.getD []) = 0
                · by_cases hnn : lenN (o.getD []) = (m.least.getD []).length
                  · have hE : yieldE m (o.getD []) = 0 := by unfold yieldE; rw [if_pos hy, if_neg hne, if_pos hnn]
                    have hV : yieldV m (o.getD []) = (ratN (yieldN m (o.getD [])) (o.getD []).length, ratD (yieldN m (o.getD [])) (o.getD []).length) := by unfold yieldV; rw [if_pos hE]
                    have h38 := I38 m o hne hl (maskE_len (yieldE_zero hE).1) (fun u hu => by rw [units_len (yieldE_zero hE).2.1 u hu, hnn]) hs
                    rw [hE, hV] at h34 h41
                    have hq : (((u0.values.getD []).length : Int) = ((m.least.getD []).length : Int)) = True := by simp [hlf, hnn]
                    simp only [go_sem, c4, I14, h15, hu, h16, hm', h18, h20, h25, h22, h34, I21_2, I23, I24, whenE_f, whenE_t, hA, f20, f00, f012, h32, h31, h33, h35, hG, h40, hlen0, hlen1, idx_sl0 h0, hz, hG0, hg, h36, hF, h39, hy, hq, h38, h41, reduceIte, Nat.reduceEqDiff, Nat.reduceAdd, Nat.reduceSub, Nat.reduceLT, Nat.reduceLeDiff, Nat.reduceMul, Int.reduceLT, Int.reduceLE, Int.reduceEq, Int.reduceNe, Int.reduceAdd, Int.reduceSub, Int.reduceNeg, Int.reduceMul]
                    exact ⟨_, rfl⟩
                  · have hE : yieldE m (o.getD []) = 2 := by unfold yieldE; rw [if_pos hy, if_neg hne, if_neg hnn]
                    have hV : yieldV m (o.getD []) = (0, 0) := by unfold yieldV; rw [hE]; rfl
                    rw [hE, hV] at h34 h41
                    have hq : ¬ ((u0.values.getD []).length : Int) = ((m.least.getD []).length : Int) := by omega
                    simp only [go_sem, c4, I14, h15, hu, h16, hm', h18, h20, h25, h22, h34, I21_2, I23, I24, whenE_f, whenE_t, hA, f20, f00, f012, h32, h31, h33, h35, hG, h40, hlen0, hlen1, idx_sl0 h0, hz, hG0, hg, h36, hF, h39, hy, hq, h41, reduceIte, Nat.reduceEqDiff, Nat.reduceAdd, Nat.reduceSub, Nat.reduceLT, Nat.reduceLeDiff, Nat.reduceMul, Int.reduceLT, Int.reduceLE, Int.reduceEq, Int.reduceNe, Int.reduceAdd, Int.reduceSub, Int.reduceNeg, Int.reduceMul]
                    exact ⟨_, rfl⟩
                · have hE : yieldE m (o.getD []) = yieldA m (o.getD []) := if_neg hy
                  have hV : yieldV m (o.getD []) = (0, 0) := by unfold yieldV; rw [hE, if_neg hy]
                  rw [hE, hV] at h34 h41
                  have hA3 := hA3 hy
                  simp only [go_sem, c4, I14, h15, hu, h16, hm', h18, h20, h25, h22, h34, I21_2, I23, I24, whenE_f, whenE_t, hA, f20, f00, f012, h32, h31, h33, h35, hG, h40, hlen0, hlen1, idx_sl0 h0, hz, hG0, hg, h36, hF, h39, hA3, hy, h41, reduceIte, Nat.reduceEqDiff, Nat.reduceAdd, Nat.reduceSub, Nat.reduceLT, Nat.reduceLeDiff, Nat.reduceMul, Int.reduceLT, Int.reduceLE, Int.reduceEq, Int.reduceNe, Int.reduceAdd, Int.reduceSub, Int.reduceNeg, Int.reduceMul]
                  exact ⟨_, rfl⟩
            · have e2 : gradedE m u0 cls = gradeE m u0 cls := if_neg hg
              have e3 : gradedN m u0 cls = 0 := if_neg hg
              rw [e2, e3] at h33 h40
              by_cases hy : yieldA m (o.getD []) = 0
              · by_cases hnn : lenN (o.getD []) = (m.least.getD []).length
                · have hE : yieldE m (o.getD []) = 0 := by unfold yieldE; rw [if_pos hy, if_neg hne, if_pos hnn]
                  have hV : yieldV m (o.getD []) = (ratN (yieldN m (o.getD [])) (o.getD []).length, ratD (yieldN m (o.getD [])) (o.getD []).length) := by unfold yieldV; rw [if_pos hE]
                  have h38 := I38 m o hne hl (maskE_len (yieldE_zero hE).1) (fun u hu => by rw [units_len (yieldE_zero hE).2.1 u hu, hnn]) hs
                  rw [hE, hV] at h34 h41
                  have hq : (((u0.values.getD []).length : Int) = ((m.least.getD []).length : Int)) = True := by simp [hlf, hnn]
                  simp only [go_sem, c4, I14, h15, hu, h16, hm', h18, h20, h25, h22, h34, I21_2, I23, I24, whenE_f, whenE_t, hA, f20, f00, f012, h32, h31, h33, h35, hG, h40, hlen0, hlen1, idx_sl0 h0, hz, hG0, hg, h36, h39, hy, hq, h38, h41, reduceIte, Nat.reduceEqDiff, Nat.reduceAdd, Nat.reduceSub, Nat.reduceLT, Nat.reduceLeDiff, Nat.reduceMul, Int.reduceLT, Int.reduceLE, Int.reduceEq, Int.reduceNe, Int.reduceAdd, Int.reduceSub, Int.reduceNeg, Int.reduceMul]
                  exact ⟨_, rfl⟩
                · have hE : yieldE m (o.getD []) = 2 := by unfold yieldE; rw [if_pos hy, if_neg hne, if_neg hnn]
                  have hV : yieldV m (o.getD []) = (0, 0) := by unfold yieldV; rw [hE]; rfl
                  rw [hE, hV] at h34 h41
                  have hq : ¬ ((u0.values.getD []).length : Int) = ((m.least.getD []).length : Int) := by omega
                  simp only [go_sem, c4, I14, h15, hu, h16, hm', h18, h20, h25, h22, h34, I21_2, I23, I24, whenE_f, whenE_t, hA, f20, f00, f012, h32, h31, h33, h35, hG, h40, hlen0, hlen1, idx_sl0 h0, hz, hG0, hg, h36, h39, hy, hq, h41, reduceIte, Nat.reduceEqDiff, Nat.reduceAdd, Nat.reduceSub, Nat.reduceLT, Nat.reduceLeDiff, Nat.reduceMul, Int.reduceLT, Int.reduceLE, Int.reduceEq, Int.reduceNe, Int.reduceAdd, Int.reduceSub, Int.reduceNeg, Int.reduceMul]
                  exact ⟨_, rfl⟩
              · have hE : yieldE m (o.getD []) = yieldA m (o.getD []) := if_neg hy
                have hV : yieldV m (o.getD []) = (0, 0) := by unfold yieldV; rw [hE, if_neg hy]
                rw [hE, hV] at h34 h41
                have hA3 := hA3 hy
                simp only [go_sem, c4, I14, h15, hu, h16, hm', h18, h20, h25, h22, h34, I21_2, I23, I24, whenE_f, whenE_t, hA, f20, f00, f012, h32, h31, h33, h35, hG, h40, hlen0, hlen1, idx_sl0 h0, hz, hG0, hg, h36, h39, hA3, hy, h41, reduceIte, Nat.reduceEqDiff, Nat.reduceAdd, Nat.reduceSub, Nat.reduceLT, Nat.reduceLeDiff, Nat.reduceMul, Int.reduceLT, Int.reduceLE, Int.reduceEq, Int.reduceNe, Int.reduceAdd, Int.reduceSub, Int.reduceNeg, Int.reduceMul]
                exact ⟨_, rfl⟩
          · have hg : ¬ gradeE m u0 cls = 0 := fun h => hz (gradeE_tested h)
            have e1 : failuresM m u0 = none := if_neg hz
            have e2 : gradedE m u0 cls = gradeE m u0 cls := if_neg hg
            have e3 : gradedN m u0 cls = 0 := if_neg hg
            rw [e1] at h31
            rw [e2, e3] at h33 h40
            by_cases hy : yieldA m (o.getD []) = 0
            · by_cases hnn : lenN (o.getD []) = (m.least.getD []).length
              · have hE : yieldE m (o.getD []) = 0 := by unfold yieldE; rw [if_pos hy, if_neg hne, if_pos hnn]
                have hV : yieldV m (o.getD []) = (ratN (yieldN m (o.getD [])) (o.getD []).length, ratD (yieldN m (o.getD [])) (o.getD []).length) := by unfold yieldV; rw [if_pos hE]
                have h38 := I38 m o hne hl (maskE_len (yieldE_zero hE).1) (fun u hu => by rw [units_len (yieldE_zero hE).2.1 u hu, hnn]) hs
                rw [hE, hV] at h34 h41
                have hq : (((u0.values.getD []).length : Int) = ((m.least.getD []).length : Int)) = True := by simp [hlf, hnn]
                simp only [go_sem, c4, I14, h15, hu, h16, hm', h18, h20, h25, h22, h34, I21_2, I23, I24, whenE_f, whenE_t, hA, f20, f00, f012, h32, h31, h33, h35, hG, h40, hlen0, hlen1, idx_sl0 h0, hz, hg, h39n, sl_none, hy, hq, h38, h41, reduceIte, Nat.reduceEqDiff, Nat.reduceAdd, Nat.reduceSub, Nat.reduceLT, Nat.reduceLeDiff, Nat.reduceMul, Int.reduceLT, Int.reduceLE, Int.reduceEq, Int.reduceNe, Int.reduceAdd, Int.reduceSub, Int.reduceNeg, Int.reduceMul]
                exact ⟨_, rfl⟩
              · have hE : yieldE m (o.getD []) = 2 := by unfold yieldE; rw [if_pos hy, if_neg hne, if_neg hnn]
                have hV : yieldV m (o.getD []) = (0, 0) := by unfold yieldV; rw [hE]; rfl
                rw [hE, hV] at h34 h41
                have hq : ¬ ((u0.values.getD []).length : Int) = ((m.least.getD []).length : Int) := by omega
                simp only [go_sem, c4, I14, h15, hu, h16, hm', h18, h20, h25, h22, h34, I21_2, I23, I24, whenE_f, whenE_t, hA, f20, f00, f012, h32, h31, h33, h35, hG, h40, hlen0, hlen1, idx_sl0 h0, hz, hg, h39n, sl_none, hy, hq, h41, reduceIte, Nat.reduceEqDiff, Nat.reduceAdd, Nat.reduceSub, Nat.reduceLT, Nat.reduceLeDiff, Nat.reduceMul, Int.reduceLT, Int.reduceLE, Int.reduceEq, Int.reduceNe, Int.reduceAdd, Int.reduceSub, Int.reduceNeg, Int.reduceMul]
                exact ⟨_, rfl⟩
            · have hE : yieldE m (o.getD []) = yieldA m (o.getD []) := if_neg hy
              have hV : yieldV m (o.getD []) = (0, 0) := by unfold yieldV; rw [hE, if_neg hy]
              rw [hE, hV] at h34 h41
              have hA3 := hA3 hy
              simp only [go_sem, c4, I14, h15, hu, h16, hm', h18, h20, h25, h22, h34, I21_2, I23, I24, whenE_f, whenE_t, hA, f20, f00, f012, h32, h31, h33, h35, hG, h40, hlen0, hlen1, idx_sl0 h0, hz, hg, h39n, sl_none, hA3, hy, h41, reduceIte, Nat.reduceEqDiff, Nat.reduceAdd, Nat.reduceSub, Nat.reduceLT, Nat.reduceLeDiff, Nat.reduceMul, Int.reduceLT, Int.reduceLE, Int.reduceEq, Int.reduceNe, Int.reduceAdd, Int.reduceSub, Int.reduceNeg, Int.reduceMul]
              exact ⟨_, rfl⟩
      · have hm' : shortM m = false := by simpa using hm
        simp only [go_sem, c4, I14, h15, hu, h16, hm', reduceIte, Nat.reduceEqDiff, Nat.reduceAdd, Nat.reduceSub, Nat.reduceLT, Nat.reduceLeDiff, Nat.reduceMul, Int.reduceLT, Int.reduceLE, Int.reduceEq, Int.reduceNe, Int.reduceAdd, Int.reduceSub, Int.reduceNeg, Int.reduceMul]
        exact ⟨_, rfl⟩
    · have hu' : shortUs (o.getD []) 10 = false := by simpa using hu
      simp only [go_sem, c4, I14, h15, hu', reduceIte, Nat.reduceEqDiff, Nat.reduceAdd, Nat.reduceSub, Nat.reduceLT, Nat.reduceLeDiff, Nat.reduceMul, Int.reduceLT, Int.reduceLE, Int.reduceEq, Int.reduceNe, Int.reduceAdd, Int.reduceSub, Int.reduceNeg, Int.reduceMul]
      exact ⟨_, rfl⟩
  obtain ⟨hh, this⟩ := this
  exact callIso_of rfl this rfl rfl

end Go.Z
