/-
  The product's check of a list of units: its run.
-/
import Derived.Test.YtbkpojiedkhfkaaGreatL6
set_option linter.unusedVariables false
set_option linter.unusedSimpArgs false
set_option maxRecDepth 100000
set_option linter.unusedSimpArgs false
namespace Go.Z
open Go Go.Abs
theorem belowEntries_set {n : Nat} : ∀ l : List (List UInt8), belowEntries n (setOf l) = true
  | [] => rfl
  | s :: l => by
    show (below n (.str s) && below n (.bool true) && belowEntries n (setOf l)) = true
    rw [belowEntries_set l]; rfl
theorem stepU_known (n0 : Int) (seen : List (List UInt8)) (u : GUnit) (h : stepU n0 seen u = 0) : u.serial ∉ seen := by
  intro hm
  rw [stepU_ref, if_pos hm] at h
  split at h
  · cases h
  · next hz => exact hz h
theorem b28 (o : Option (List GUnit)) (u0 u : GUnit) (i : Nat) (seen : List (List UInt8)) (h0 : (o.getD [])[0]? = some u0) (hn : (o.getD []).length ≤ 1073741824) (hx : (o.getD [])[i]? = some u) (hu : sizeU u) (hs : seen.length = i) :
    (stepU (lenU u0) seen u = 0 → X pr c28_0 ⟨[(0, sl 2 vunit o, false), (3, .map 0, false), (11, sl 2 vunit o, false), (12, .int .i64 ((o.getD []).length : Int), false), (13, .int .i64 (i : Int), false)], [.map (setOf seen)]⟩ =
      some (.normal, ⟨[(0, sl 2 vunit o, false), (3, .map 0, false), (11, sl 2 vunit o, false), (12, .int .i64 ((o.getD []).length : Int), false), (13, .int .i64 ((i + 1 : Nat) : Int), false)], [.map (setOf (seen ++ [u.serial])), .cells [(.str u.serial, false), (sl 1 vint u.values, false)]]⟩)) ∧
    (¬ stepU (lenU u0) seen u = 0 → X pr c28_0 ⟨[(0, sl 2 vunit o, false), (3, .map 0, false), (11, sl 2 vunit o, false), (12, .int .i64 ((o.getD []).length : Int), false), (13, .int .i64 (i : Int), false)], [.map (setOf seen)]⟩ =
      some (.ret, ⟨[(2, .int .i64 (stepU (lenU u0) seen u), false)], [.map (setOf seen), .cells [(.str u.serial, false), (sl 1 vint u.values, false)]]⟩)) := by
  have hi : i < (o.getD []).length := (List.getElem?_eq_some_iff.1 hx).1
  have hlt : (i : Int) < ((o.getD []).length : Int) := by omega
  have hw := wrap_succ hi (by omega)
  have h97 := I97 u hu
  have hsz : seen.length ≤ 1073741824 := by omega
  constructor
  · intro hz
    have hm := stepU_known _ _ _ hz
    rw [← setOf_snoc]
    delta stepU lenU at hz
    simp only [hm, decide_false] at hz
    simp only [go_sem, c28_0, hlt, idx_sl hx, idx_sl0 h0, h97, I89, I87_3, hm, hz, hsz, hw, reduceIte, Nat.reduceEqDiff, Nat.reduceAdd, Nat.reduceSub, Nat.reduceLT, Nat.reduceLeDiff, Nat.reduceMul, Int.reduceLT, Int.reduceLE, Int.reduceEq, Int.reduceNe, Int.reduceAdd, Int.reduceSub, Int.reduceNeg, Int.reduceMul]
  · intro hz
    by_cases hm : u.serial ∈ seen
    · delta stepU lenU at hz ⊢
      simp only [hm, decide_true] at hz ⊢
      simp only [go_sem, c28_0, hlt, idx_sl hx, idx_sl0 h0, h97, I89, I87_3, hm, hz, reduceIte, Nat.reduceEqDiff, Nat.reduceAdd, Nat.reduceSub, Nat.reduceLT, Nat.reduceLeDiff, Nat.reduceMul, Int.reduceLT, Int.reduceLE, Int.reduceEq, Int.reduceNe, Int.reduceAdd, Int.reduceSub, Int.reduceNeg, Int.reduceMul]
    · delta stepU lenU at hz ⊢
      simp only [hm, decide_false] at hz ⊢
      simp only [go_sem, c28_0, hlt, idx_sl hx, idx_sl0 h0, h97, I89, I87_3, hm, hz, reduceIte, Nat.reduceEqDiff, Nat.reduceAdd, Nat.reduceSub, Nat.reduceLT, Nat.reduceLeDiff, Nat.reduceMul, Int.reduceLT, Int.reduceLE, Int.reduceEq, Int.reduceNe, Int.reduceAdd, Int.reduceSub, Int.reduceNeg, Int.reduceMul]
theorem l28 (o : Option (List GUnit)) (u0 : GUnit) (h0 : (o.getD [])[0]? = some u0) (hn : (o.getD []).length ≤ 1073741824) (hs : ∀ u ∈ o.getD [], sizeU u) :
    ∃ hh, X pr (.loop c28_0) ⟨[(0, sl 2 vunit o, false), (3, .map 0, false), (11, sl 2 vunit o, false), (12, .int .i64 ((o.getD []).length : Int), false), (13, .int .i64 0, false)], [.map []]⟩ =
      some (if firstU (lenU u0) [] (o.getD []) = 0 then (.exit 0, ⟨[(0, sl 2 vunit o, false), (3, .map 0, false), (11, sl 2 vunit o, false), (12, .int .i64 ((o.getD []).length : Int), false), (13, .int .i64 ((o.getD []).length : Int), false), (14, .bool false, false)], hh⟩)
        else (.ret, ⟨[(2, .int .i64 (firstU (lenU u0) [] (o.getD [])), false)], hh⟩)) := by
  have := X_loop_list (p := pr) (c := c28_0) (o.getD []) (fun i (s : List (List UInt8)) => ⟨[(0, sl 2 vunit o, false), (3, .map 0, false), (11, sl 2 vunit o, false), (12, .int .i64 ((o.getD []).length : Int), false), (13, .int .i64 (i : Int), false)], [.map (setOf s)]⟩)
    (fun _ seen u => if stepU (lenU u0) seen u = 0 then .inl (seen ++ [u.serial]) else .inr ((stepU (lenU u0) seen u, seen, u) : Int × List (List UInt8) × GUnit))
    (fun s => (.exit 0, ⟨[(0, sl 2 vunit o, false), (3, .map 0, false), (11, sl 2 vunit o, false), (12, .int .i64 ((o.getD []).length : Int), false), (13, .int .i64 ((o.getD []).length : Int), false), (14, .bool false, false)], [.map (setOf s)]⟩))
    (fun e => (.ret, ⟨[(2, .int .i64 e.1, false)], [.map (setOf e.2.1), .cells [(.str e.2.2.serial, false), (sl 1 vint e.2.2.values, false)]]⟩)) (fun i s => s.length = i) [] (fun _ h => by cases h) (fun _ h => by cases h) ?_ ?_ rfl
  · rw [Int.natCast_zero] at this
    have hr : ∀ (l : List GUnit) (i : Nat) (seen : List (List UInt8)), (firstU (lenU u0) seen l = 0 → ∃ s, runL (fun _ seen u => if stepU (lenU u0) seen u = 0 then .inl (seen ++ [u.serial]) else .inr ((stepU (lenU u0) seen u, seen, u) : Int × List (List UInt8) × GUnit)) i seen l = .inl s) ∧
        (¬ firstU (lenU u0) seen l = 0 → ∃ e, runL (fun _ seen u => if stepU (lenU u0) seen u = 0 then .inl (seen ++ [u.serial]) else .inr ((stepU (lenU u0) seen u, seen, u) : Int × List (List UInt8) × GUnit)) i seen l = .inr (firstU (lenU u0) seen l, e)) := by
      intro l
      induction l with
      | nil => intro i seen; exact ⟨fun _ => ⟨seen, rfl⟩, fun h => absurd rfl h⟩
      | cons u l ih =>
        intro i seen
        simp only [runL, firstU]
        by_cases hz : stepU (lenU u0) seen u = 0
        · simp only [if_pos hz]
          exact ih (i + 1) _
        · simp only [if_neg hz]
          exact ⟨fun h => absurd h hz, fun _ => ⟨(seen, u), rfl⟩⟩
    have hr0 := hr (o.getD []) 0 []
    by_cases hz : firstU (lenU u0) [] (o.getD []) = 0
    · obtain ⟨s, hs'⟩ := hr0.1 hz
      rw [hs'] at this
      exact ⟨[.map (setOf s)], by rw [if_pos hz]; exact this⟩
    · obtain ⟨e, hs'⟩ := hr0.2 hz
      rw [hs'] at this
      exact ⟨_, by rw [if_neg hz]; exact this⟩
  · intro s _
    have hlt : ¬ (((o.getD []).length : Int) < ((o.getD []).length : Int)) := by omega
    simp only [go_sem, c28_0, hlt, reduceIte, Nat.reduceEqDiff, Nat.reduceAdd, Nat.reduceSub, Nat.reduceLT, Nat.reduceLeDiff, Nat.reduceMul, Int.reduceLT, Int.reduceLE, Int.reduceEq, Int.reduceNe, Int.reduceAdd, Int.reduceSub, Int.reduceNeg, Int.reduceMul]
  · intro i s u hx hi hv
    have hb := b28 o u0 u i s h0 hn hx (hs u (List.mem_of_getElem? hx)) hv
    by_cases hz : stepU (lenU u0) s u = 0
    · refine stepL_in (s' := s ++ [u.serial]) (by simp only [if_pos hz]) (by simp [hv]) (hb.1 hz) (gc_over (h := [.map (setOf (s ++ [u.serial]))]) rfl rfl ?_ ?_)
      · simp only [go_sem, List.length_cons, List.length_nil, reduceIte, Nat.reduceEqDiff, Nat.reduceAdd, Nat.reduceSub, Nat.reduceLT, Nat.reduceLeDiff, Nat.reduceMul, Int.reduceLT, Int.reduceLE, Int.reduceEq, Int.reduceNe, Int.reduceAdd, Int.reduceSub, Int.reduceNeg, Int.reduceMul]
      · simp only [belowHeap, belowBox, belowEntries_set, Bool.and_self]
    · exact stepL_out (d := (stepU (lenU u0) s u, s, u)) (by simp only [if_neg hz]) (hb.2 hz)
theorem I28 (o : Option (List GUnit)) (hn : (o.getD []).length ≤ 1073741824) (hs : ∀ u ∈ o.getD [], sizeU u) : callIso pr (X pr) 28 [sl 2 vunit o] = some (.int .i64 (unitsE (o.getD [])), false) := by
  have : ∃ hh, callFn pr (X pr) 28 [sl 2 vunit o] [] = some (.int .i64 (unitsE (o.getD [])), false, hh) := by
    rw [callFn_at (show pr.fns 28 = some c28 from rfl) (by simp)]
    unfold unitsE
    by_cases h64 : (o.getD []).length ≤ 64
    · have h64' : ¬ (64 : Int) < ((o.getD []).length : Int) := by omega
      rw [if_pos h64]
      cases hc : o.getD [] with
      | nil =>
        have hlt : ¬ ((0 : Int) < ((o.getD []).length : Int)) := by rw [hc]; decide
        have hl : X pr (.loop c28_0) ⟨[(0, sl 2 vunit o, false), (3, .map 0, false), (11, sl 2 vunit o, false), (12, .int .i64 ((o.getD []).length : Int), false), (13, .int .i64 0, false)], [.map []]⟩ = some (.exit 0, ⟨[(0, sl 2 vunit o, false), (3, .map 0, false), (11, sl 2 vunit o, false), (12, .int .i64 ((o.getD []).length : Int), false), (13, .int .i64 0, false), (14, .bool false, false)], [.map []]⟩) := by
          rw [X_loop']
          simp only [go_sem, c28_0, hlt, reduceIte, Nat.reduceEqDiff, Nat.reduceAdd, Nat.reduceSub, Nat.reduceLT, Nat.reduceLeDiff, Nat.reduceMul, Int.reduceLT, Int.reduceLE, Int.reduceEq, Int.reduceNe, Int.reduceAdd, Int.reduceSub, Int.reduceNeg, Int.reduceMul]
        rw [show firstU (len0 []) [] [] = 0 from rfl]
        simp only [go_sem, c28, h64', hl, reduceIte, Nat.reduceEqDiff, Nat.reduceAdd, Nat.reduceSub, Nat.reduceLT, Nat.reduceLeDiff, Nat.reduceMul, Int.reduceLT, Int.reduceLE, Int.reduceEq, Int.reduceNe, Int.reduceAdd, Int.reduceSub, Int.reduceNeg, Int.reduceMul]
        exact ⟨_, rfl⟩
      | cons u0 l =>
        obtain ⟨hh, hl⟩ := l28 o u0 (by rw [hc]; rfl) hn hs
        rw [← hc, show len0 (o.getD []) = lenU u0 by rw [hc]; rfl]
        by_cases hz : firstU (lenU u0) [] (o.getD []) = 0
        · rw [if_pos hz] at hl
          simp only [go_sem, c28, h64', hl, hz, reduceIte, Nat.reduceEqDiff, Nat.reduceAdd, Nat.reduceSub, Nat.reduceLT, Nat.reduceLeDiff, Nat.reduceMul, Int.reduceLT, Int.reduceLE, Int.reduceEq, Int.reduceNe, Int.reduceAdd, Int.reduceSub, Int.reduceNeg, Int.reduceMul]
          exact ⟨_, rfl⟩
        · rw [if_neg hz] at hl
          simp only [go_sem, c28, h64', hl, reduceIte, Nat.reduceEqDiff, Nat.reduceAdd, Nat.reduceSub, Nat.reduceLT, Nat.reduceLeDiff, Nat.reduceMul, Int.reduceLT, Int.reduceLE, Int.reduceEq, Int.reduceNe, Int.reduceAdd, Int.reduceSub, Int.reduceNeg, Int.reduceMul]
          exact ⟨_, rfl⟩
    · have h64' : (64 : Int) < ((o.getD []).length : Int) := by omega
      rw [if_neg h64]
      simp only [go_sem, c28, h64', reduceIte, Nat.reduceEqDiff, Nat.reduceAdd, Nat.reduceSub, Nat.reduceLT, Nat.reduceLeDiff, Nat.reduceMul, Int.reduceLT, Int.reduceLE, Int.reduceEq, Int.reduceNe, Int.reduceAdd, Int.reduceSub, Int.reduceNeg, Int.reduceMul]
      exact ⟨_, rfl⟩
  obtain ⟨hh, this⟩ := this
  exact callIso_of rfl this rfl rfl
end Go.Z
