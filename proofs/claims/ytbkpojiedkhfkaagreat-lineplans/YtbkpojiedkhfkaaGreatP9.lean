/-
  LinePlans: its run gives true.
-/
import Derived.Test.YtbkpojiedkhfkaaGreatP8
import Derived.Test.YtbkpojiedkhfkaaGreatL12

set_option linter.unusedVariables false
set_option linter.unusedSimpArgs false

set_option maxRecDepth 100000
set_option linter.unusedSimpArgs false
namespace Go.Z
open Go Go.Abs

theorem eqs4 {h : Heap} {a b c d : Int} : eqsR [.int, .int, .int, .int] false h (some (.agg [.int .i64 a, .int .i64 b, .int .i64 c, .int .i64 d])) (some (.agg [.int .i64 a, .int .i64 b, .int .i64 c, .int .i64 d])) = some ⟨.bool true, false, none, h⟩ := by
  show (match eqCells [.int, .int, .int, .int] [.int .i64 a, .int .i64 b, .int .i64 c, .int .i64 d] [.int .i64 a, .int .i64 b, .int .i64 c, .int .i64 d] with | some t => val h (.bool (bif false then !t else t)) | none => none) = _
  have : eqCells [.int, .int, .int, .int] [.int .i64 a, .int .i64 b, .int .i64 c, .int .i64 d] [.int .i64 a, .int .i64 b, .int .i64 c, .int .i64 d] = some true := by
    simp [eqCells, eqCell]
  rw [this]
  rfl
theorem num_same {a e : Int} (h : e ≠ 0 → a = 0) : callIso pr (X pr) 40 [.int .i64 a, .int .i64 e, .int .i64 e, .int .i64 a] = some (.bool true, false) := by
  rw [I40]
  unfold numB
  by_cases he : e = 0
  · simp [he]
  · simp [he, h he]
theorem rat_same {a b e : Int} (h : e ≠ 0 → a = 0 ∧ b = 0) : callIso pr (X pr) 41 [.agg [.int .i64 a, .int .i64 b], .int .i64 e, .int .i64 e, .agg [.int .i64 a, .int .i64 b]] = some (.bool true, false) := by
  rw [I41]
  unfold ratB
  by_cases he : e = 0
  · simp [he]
  · obtain ⟨h1, h2⟩ := h he
    simp [he, h1, h2]
theorem decV_zero {L S A : Int} {l : List Bool} (h : (decV L S A l).2.2 ≠ 0) : (decV L S A l).2.1 = 0 := by
  unfold decV at h ⊢
  by_cases hz : decA L S A l.length = 0
  · rw [if_pos hz] at h ⊢
    unfold decR at h ⊢
    cases hr : runL (stepDec S A) 0 0 l with
    | inl bad => rfl
    | inr r => rw [hr] at h; exact absurd rfl h
  · rw [if_neg hz]

set_option maxHeartbeats 4000000 in
theorem I5 (o : Option (List Bool)) (L S A n0 n1 : Int) : callIso pr (X pr) 5 [.agg [.int .i64 L, .int .i64 S, .int .i64 A], .agg [.int .i64 n0, .int .i64 n1], sl 1 vbool o] = some (.bool true, false) := by
  have : ∃ hh, callFn pr (X pr) 5 [.agg [.int .i64 L, .int .i64 S, .int .i64 A], .agg [.int .i64 n0, .int .i64 n1], sl 1 vbool o] [] = some (.bool true, false, hh) := by
    rw [callFn_at (show pr.fns 5 = some c5 from rfl) (by simp)]
    by_cases hlen : (40 : Int) < ((o.getD []).length : Int)
    · simp only [go_sem, c5, I14, hlen, reduceIte, Nat.reduceEqDiff, Nat.reduceAdd, Nat.reduceSub, Nat.reduceLT, Nat.reduceLeDiff, Nat.reduceMul, Int.reduceLT, Int.reduceLE, Int.reduceEq, Int.reduceNe, Int.reduceAdd, Int.reduceSub, Int.reduceNeg, Int.reduceMul]
      exact ⟨_, rfl⟩
    · have hn : (o.getD []).length ≤ 1000 := by omega
      have hn1 : (o.getD []).length ≤ 1073741824 := by omega
      have h44 : callIso pr (X pr) 44 [.agg [.int .i64 L, .int .i64 S, .int .i64 A], .list false 1 ((o.getD []).map vbool)] = some (.tup [.bool (decV L S A (o.getD [])).1, .int .i64 (decV L S A (o.getD [])).2.1, .int .i64 (decV L S A (o.getD [])).2.2], false) := I44 L S A (some (o.getD [])) hn
      have hone : firstNZ [planE L S A, checkRange n0 0 L] = accE L S A n0 := rfl
      have htwo : firstNZ [planE L S A, defE L n0 n1] = riskE L S A n0 n1 := rfl
      have hbel : belowL 0 ((o.getD []).map vbool) = true := belowL_map (fun _ => rfl) _
      by_cases hp : planE L S A = 0
      · have hone0 : firstNZ [0, checkRange n0 0 L] = accE L S A n0 := by simp only [accE, hp]
        have htwo0 : firstNZ [0, defE L n0 n1] = riskE L S A n0 n1 := by simp only [riskE, hp]
        have h49 := I49 L S A o hn hp
        have h40 := num_same (decV_zero (L := L) (S := S) (A := A) (l := o.getD []))
        obtain ⟨l, s, a, e1, e2, e3, q1, q2, q3, q4, q5⟩ := plan_ok hp
        subst e1 e2 e3
        by_cases ha : accE (l : Int) (s : Int) (a : Int) n0 = 0
        · have hr0 := firstNZ_zero ha _ (List.mem_cons_of_mem _ (List.mem_cons_self ..))
          have hr := checkRange_zero hr0
          obtain ⟨d, hd⟩ : ∃ d : Nat, n0 = d := ⟨n0.toNat, by omega⟩
          subst hd
          have hdl : d ≤ l := by omega
          have h42 := I42ok ⟨q1, q2, q3, q4, q5⟩ hdl hp hr0
          have h47 := I47 ⟨q1, q2, q3, q4, q5⟩ hdl
          have h41 := rat_same (a := ratN (accN l s d a) (ch l s)) (b := ratD (accN l s d a) (ch l s)) (e := 0) (fun h => absurd rfl h)
          by_cases hk : riskE (l : Int) (s : Int) (a : Int) (d : Int) n1 = 0
          · have hk0 := firstNZ_zero hk _ (List.mem_cons_of_mem _ (List.mem_cons_self ..))
            have hb := checkRange_zero (firstNZ_zero hk0 _ (List.mem_cons_of_mem _ (List.mem_cons_self ..)))
            obtain ⟨b, hb'⟩ : ∃ b : Nat, n1 = b := ⟨n1.toNat, by omega⟩
            subst hb'
            have h43 := I43ok ⟨q1, q2, q3, q4, q5⟩ hdl (show b ≤ l by omega) hp hk0
            have h48 := I48 ⟨q1, q2, q3, q4, q5⟩ hdl (show b ≤ l by omega)
            simp only [go_sem, c5, I14, hlen, h42, h43, List.length_map, Nat.zero_add, hn1, hbel, h44, I45, hp, I23, I21_2, hone0, I46, htwo0, ha, hk, h47, h48, h49, I50, h41, eqs4, h40, beq_self_eq_true, reduceIte, Nat.reduceEqDiff, Nat.reduceAdd, Nat.reduceSub, Nat.reduceLT, Nat.reduceLeDiff, Nat.reduceMul, Int.reduceLT, Int.reduceLE, Int.reduceEq, Int.reduceNe, Int.reduceAdd, Int.reduceSub, Int.reduceNeg, Int.reduceMul]
            exact ⟨_, rfl⟩
          · have h43 := I43e (l : Int) (s : Int) (a : Int) (d : Int) n1 hk
            simp only [go_sem, c5, I14, hlen, h42, h43, List.length_map, Nat.zero_add, hn1, hbel, h44, I45, hp, I23, I21_2, hone0, I46, htwo0, ha, hk, h47, h49, I50, h41, eqs4, h40, beq_self_eq_true, reduceIte, Nat.reduceEqDiff, Nat.reduceAdd, Nat.reduceSub, Nat.reduceLT, Nat.reduceLeDiff, Nat.reduceMul, Int.reduceLT, Int.reduceLE, Int.reduceEq, Int.reduceNe, Int.reduceAdd, Int.reduceSub, Int.reduceNeg, Int.reduceMul]
            exact ⟨_, rfl⟩
        · have h42 := I42e (l : Int) (s : Int) (a : Int) n0 ha
          have h41 := rat_same (a := 0) (b := 0) (e := accE (l : Int) (s : Int) (a : Int) n0) (fun _ => ⟨rfl, rfl⟩)
          have hk : ¬ riskE (l : Int) (s : Int) (a : Int) n0 n1 = 0 := by
            intro hk
            have hk0 := firstNZ_zero hk _ (List.mem_cons_of_mem _ (List.mem_cons_self ..))
            have hk1 := firstNZ_zero hk0 _ (List.mem_cons_self ..)
            apply ha
            simp only [accE, hp, hk1, firstNZ, if_true]
          have h43 := I43e (l : Int) (s : Int) (a : Int) n0 n1 hk
          simp only [go_sem, c5, I14, hlen, h42, h43, List.length_map, Nat.zero_add, hn1, hbel, h44, I45, hp, I23, I21_2, hone0, I46, htwo0, ha, hk, h49, I50, h41, eqs4, h40, beq_self_eq_true, reduceIte, Nat.reduceEqDiff, Nat.reduceAdd, Nat.reduceSub, Nat.reduceLT, Nat.reduceLeDiff, Nat.reduceMul, Int.reduceLT, Int.reduceLE, Int.reduceEq, Int.reduceNe, Int.reduceAdd, Int.reduceSub, Int.reduceNeg, Int.reduceMul]
          exact ⟨_, rfl⟩
      · have ha : accE L S A n0 = planE L S A := by unfold accE; simp only [firstNZ, if_neg hp]
        have hk : riskE L S A n0 n1 = planE L S A := by unfold riskE; simp only [firstNZ, if_neg hp]
        have hd : decA L S A (o.getD []).length = planE L S A := by unfold decA; simp only [firstNZ, if_neg hp]
        have hv : decV L S A (o.getD []) = (false, 0, planE L S A) := by unfold decV; rw [hd, if_neg hp]
        have h42 := I42e L S A n0 (by rw [ha]; exact hp)
        have h43 := I43e L S A n0 n1 (by rw [hk]; exact hp)
        rw [ha] at h42 hone
        rw [hk] at h43 htwo
        rw [hv] at h44
        have h41 := rat_same (a := 0) (b := 0) (e := planE L S A) (fun _ => ⟨rfl, rfl⟩)
        have h40 := num_same (a := 0) (e := planE L S A) (fun _ => rfl)
        simp only [go_sem, c5, I14, hlen, h42, h43, List.length_map, Nat.zero_add, hn1, hbel, h44, I45, I23, I21_2, hone, I46, htwo, hp, I50, h41, eqs4, h40, beq_self_eq_true, reduceIte, Nat.reduceEqDiff, Nat.reduceAdd, Nat.reduceSub, Nat.reduceLT, Nat.reduceLeDiff, Nat.reduceMul, Int.reduceLT, Int.reduceLE, Int.reduceEq, Int.reduceNe, Int.reduceAdd, Int.reduceSub, Int.reduceNeg, Int.reduceMul]
        exact ⟨_, rfl⟩
  obtain ⟨hh, this⟩ := this
  exact callIso_of rfl this rfl rfl

end Go.Z
