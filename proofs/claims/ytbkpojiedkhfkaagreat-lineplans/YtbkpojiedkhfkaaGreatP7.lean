/-
  Decisions, both: the runs.
-/
import Derived.Test.YtbkpojiedkhfkaaGreatP6

set_option linter.unusedVariables false
set_option linter.unusedSimpArgs false

set_option maxRecDepth 100000
set_option linter.unusedSimpArgs false
namespace Go.Z
open Go Go.Abs

def vbool (b : Bool) : AVal := .bool b
@[go_sem] theorem loadR_vbool {h0 : Nat} {al : Option (List Nat)} {h : Heap} {b : Bool} : loadR h0 al false 1 h (some (.vptr (vbool b))) = some ⟨.bool b, false, none, h⟩ := rfl
@[go_sem] theorem below_bools {n z : Nat} {l : Option (List Bool)} : below n (sl z vbool l) = true := below_sl fun _ => rfl

def badN (bad : Nat) (f : Bool) : Nat := if f = true then bad + 1 else bad
def stepDec (S A : Int) (i : Nat) (bad : Nat) (f : Bool) : Nat ⊕ (Bool × Nat) :=
  if A < (badN bad f : Int) then .inr (false, i + 1) else if S - ((i : Int) + 1 - (badN bad f : Int)) ≤ A then .inr (true, i + 1) else .inl (badN bad f)
def decR (S A : Int) (l : List Bool) : Bool × Int × Int := match runL (stepDec S A) 0 0 l with
  | .inl _ => (false, 0, 7)
  | .inr (b, n) => (b, (n : Int), 0)

theorem l44 (L S A : Int) (o : Option (List Bool)) (hn : (o.getD []).length ≤ 1000) (hS : -1000 ≤ S ∧ S ≤ 1000) :
    X pr (.loop c44_0) ⟨[(2, .ptr 0 0, false), (8, .int .i64 0, false), (25, sl 1 vbool o, false), (26, .int .i64 ((o.getD []).length : Int), false), (27, .int .i64 0, false)], [pBox L S A]⟩ =
      some (outL (fun (bad : Nat) => (.exit 0, ⟨[(2, .ptr 0 0, false), (8, .int .i64 (bad : Int), false), (25, sl 1 vbool o, false), (26, .int .i64 ((o.getD []).length : Int), false), (27, .int .i64 ((o.getD []).length : Int), false), (28, .bool false, false)], [pBox L S A]⟩))
        (fun (r : Bool × Nat) => (.ret, ⟨[(4, .bool r.1, false), (5, .int .i64 (r.2 : Int), false), (6, .int .i64 0, false)], [pBox L S A]⟩)) (runL (stepDec S A) 0 0 (o.getD []))) := by
  have := X_loop_list (p := pr) (c := c44_0) (o.getD []) (fun i (bad : Nat) => ⟨[(2, .ptr 0 0, false), (8, .int .i64 (bad : Int), false), (25, sl 1 vbool o, false), (26, .int .i64 ((o.getD []).length : Int), false), (27, .int .i64 (i : Int), false)], [pBox L S A]⟩)
    (stepDec S A) (fun bad => (.exit 0, ⟨[(2, .ptr 0 0, false), (8, .int .i64 (bad : Int), false), (25, sl 1 vbool o, false), (26, .int .i64 ((o.getD []).length : Int), false), (27, .int .i64 ((o.getD []).length : Int), false), (28, .bool false, false)], [pBox L S A]⟩))
    (fun (r : Bool × Nat) => (.ret, ⟨[(4, .bool r.1, false), (5, .int .i64 (r.2 : Int), false), (6, .int .i64 0, false)], [pBox L S A]⟩)) (fun i bad => bad ≤ i) 0 (fun _ h => by cases h) (fun _ h => by cases h) ?_ ?_ (Nat.le_refl _)
  · rw [Int.natCast_zero] at this
    exact this
  · intro s _
    have hlt : ¬ (((o.getD []).length : Int) < ((o.getD []).length : Int)) := by omega
    simp only [go_sem, c44_0, hlt, reduceIte, Nat.reduceEqDiff, Nat.reduceAdd, Nat.reduceSub, Nat.reduceLT, Nat.reduceLeDiff, Nat.reduceMul, Int.reduceLT, Int.reduceLE, Int.reduceEq, Int.reduceNe, Int.reduceAdd, Int.reduceSub, Int.reduceNeg, Int.reduceMul]
  · intro i bad f hx hi hb
    have hlt : (i : Int) < ((o.getD []).length : Int) := by omega
    have hw := wrap_succ hi (by omega)
    have hbn : badN bad f ≤ i + 1 := by unfold badN; split <;> omega
    have w1 : wrapF .i64 ((bad : Int) + 1) = ((bad + 1 : Nat) : Int) := wrap_succ (n := bad + 1) (by omega) (by omega)
    have w2 : wrapF .i64 (((i + 1 : Nat) : Int) - (badN bad f : Int)) = (i : Int) + 1 - (badN bad f : Int) := by rw [wrapF_i64 (by omega) (by omega)]; omega
    have w3 : wrapF .i64 (S - ((i : Int) + 1 - (badN bad f : Int))) = S - ((i : Int) + 1 - (badN bad f : Int)) := wrapF_i64 (by omega) (by omega)
    by_cases h1 : A < (badN bad f : Int)
    · refine stepL_out (d := (false, i + 1)) (by unfold stepDec; rw [if_pos h1]) ?_
      cases f with
      | true =>
        simp only [badN, if_true] at h1 w2 w3
        simp only [go_sem, c44_0, pBox, hlt, idx_sl hx, hw, w1, w2, w3, h1, reduceIte, Nat.reduceEqDiff, Nat.reduceAdd, Nat.reduceSub, Nat.reduceLT, Nat.reduceLeDiff, Nat.reduceMul, Int.reduceLT, Int.reduceLE, Int.reduceEq, Int.reduceNe, Int.reduceAdd, Int.reduceSub, Int.reduceNeg, Int.reduceMul]
      | false =>
        simp only [badN, Bool.false_eq_true, if_false] at h1 w2 w3
        simp only [go_sem, c44_0, pBox, hlt, idx_sl hx, hw, w1, w2, w3, h1, reduceIte, Nat.reduceEqDiff, Nat.reduceAdd, Nat.reduceSub, Nat.reduceLT, Nat.reduceLeDiff, Nat.reduceMul, Int.reduceLT, Int.reduceLE, Int.reduceEq, Int.reduceNe, Int.reduceAdd, Int.reduceSub, Int.reduceNeg, Int.reduceMul]
    · by_cases h2 : S - ((i : Int) + 1 - (badN bad f : Int)) ≤ A
      · refine stepL_out (d := (true, i + 1)) (by unfold stepDec; rw [if_neg h1, if_pos h2]) ?_
        cases f with
        | true =>
          simp only [badN, if_true] at h1 h2 w2 w3
          simp only [go_sem, c44_0, pBox, hlt, idx_sl hx, hw, w1, w2, w3, h1, h2, reduceIte, Nat.reduceEqDiff, Nat.reduceAdd, Nat.reduceSub, Nat.reduceLT, Nat.reduceLeDiff, Nat.reduceMul, Int.reduceLT, Int.reduceLE, Int.reduceEq, Int.reduceNe, Int.reduceAdd, Int.reduceSub, Int.reduceNeg, Int.reduceMul]
        | false =>
          simp only [badN, Bool.false_eq_true, if_false] at h1 h2 w2 w3
          simp only [go_sem, c44_0, pBox, hlt, idx_sl hx, hw, w1, w2, w3, h1, h2, reduceIte, Nat.reduceEqDiff, Nat.reduceAdd, Nat.reduceSub, Nat.reduceLT, Nat.reduceLeDiff, Nat.reduceMul, Int.reduceLT, Int.reduceLE, Int.reduceEq, Int.reduceNe, Int.reduceAdd, Int.reduceSub, Int.reduceNeg, Int.reduceMul]
      · refine stepL_in (s' := badN bad f) (by unfold stepDec; rw [if_neg h1, if_neg h2]) hbn ?_ (gc_same (Nat.le_refl _))
        cases f with
        | true =>
          simp only [badN, if_true] at h1 h2 w2 w3 ⊢
          simp only [go_sem, c44_0, pBox, hlt, idx_sl hx, hw, w1, w2, w3, h1, h2, reduceIte, Nat.reduceEqDiff, Nat.reduceAdd, Nat.reduceSub, Nat.reduceLT, Nat.reduceLeDiff, Nat.reduceMul, Int.reduceLT, Int.reduceLE, Int.reduceEq, Int.reduceNe, Int.reduceAdd, Int.reduceSub, Int.reduceNeg, Int.reduceMul]
        | false =>
          simp only [badN, Bool.false_eq_true, if_false] at h1 h2 w2 w3 ⊢
          simp only [go_sem, c44_0, pBox, hlt, idx_sl hx, hw, w1, w2, w3, h1, h2, reduceIte, Nat.reduceEqDiff, Nat.reduceAdd, Nat.reduceSub, Nat.reduceLT, Nat.reduceLeDiff, Nat.reduceMul, Int.reduceLT, Int.reduceLE, Int.reduceEq, Int.reduceNe, Int.reduceAdd, Int.reduceSub, Int.reduceNeg, Int.reduceMul]

theorem l49 (L S A : Int) (o : Option (List Bool)) (hn : (o.getD []).length ≤ 1000) (hS : -1000 ≤ S ∧ S ≤ 1000) :
    X pr (.loop c49_0) ⟨[(1, sl 1 vbool o, false), (2, .ptr 0 0, false), (7, .int .i64 0, false), (8, .int .i64 0, false)], [pBox L S A]⟩ =
      some (outL (fun (bad : Nat) => (.exit 0, ⟨[(1, sl 1 vbool o, false), (2, .ptr 0 0, false), (7, .int .i64 (bad : Int), false), (8, .int .i64 ((o.getD []).length : Int), false), (17, .bool false, false)], [pBox L S A]⟩))
        (fun (r : Bool × Nat) => (.ret, ⟨[(4, .bool r.1, false), (5, .int .i64 (r.2 : Int), false), (6, .int .i64 0, false)], [pBox L S A]⟩)) (runL (stepDec S A) 0 0 (o.getD []))) := by
  have := X_loop_list (p := pr) (c := c49_0) (o.getD []) (fun i (bad : Nat) => ⟨[(1, sl 1 vbool o, false), (2, .ptr 0 0, false), (7, .int .i64 (bad : Int), false), (8, .int .i64 (i : Int), false)], [pBox L S A]⟩)
    (stepDec S A) (fun bad => (.exit 0, ⟨[(1, sl 1 vbool o, false), (2, .ptr 0 0, false), (7, .int .i64 (bad : Int), false), (8, .int .i64 ((o.getD []).length : Int), false), (17, .bool false, false)], [pBox L S A]⟩))
    (fun (r : Bool × Nat) => (.ret, ⟨[(4, .bool r.1, false), (5, .int .i64 (r.2 : Int), false), (6, .int .i64 0, false)], [pBox L S A]⟩)) (fun i bad => bad ≤ i) 0 (fun _ h => by cases h) (fun _ h => by cases h) ?_ ?_ (Nat.le_refl _)
  · rw [Int.natCast_zero] at this
    exact this
  · intro s _
    have hlt : ¬ (((o.getD []).length : Int) < ((o.getD []).length : Int)) := by omega
    simp only [go_sem, c49_0, hlt, reduceIte, Nat.reduceEqDiff, Nat.reduceAdd, Nat.reduceSub, Nat.reduceLT, Nat.reduceLeDiff, Nat.reduceMul, Int.reduceLT, Int.reduceLE, Int.reduceEq, Int.reduceNe, Int.reduceAdd, Int.reduceSub, Int.reduceNeg, Int.reduceMul]
  · intro i bad f hx hi hb
    have hlt : (i : Int) < ((o.getD []).length : Int) := by omega
    have hw := wrap_succ hi (by omega)
    have hbn : badN bad f ≤ i + 1 := by unfold badN; split <;> omega
    have w1 : wrapF .i64 ((bad : Int) + 1) = ((bad + 1 : Nat) : Int) := wrap_succ (n := bad + 1) (by omega) (by omega)
    have w2 : wrapF .i64 ((badN bad f : Int) + S) = (badN bad f : Int) + S := wrapF_i64 (by omega) (by omega)
    have w3 : wrapF .i64 ((badN bad f : Int) + S - (i : Int)) = (badN bad f : Int) + S - (i : Int) := wrapF_i64 (by omega) (by omega)
    have w4 : wrapF .i64 ((badN bad f : Int) + S - (i : Int) - 1) = S - ((i : Int) + 1 - (badN bad f : Int)) := by rw [wrapF_i64 (by omega) (by omega)]; omega
    by_cases h1 : A < (badN bad f : Int)
    · refine stepL_out (d := (false, i + 1)) (by unfold stepDec; rw [if_pos h1]) ?_
      cases f with
      | true =>
        simp only [badN, if_true] at h1 w2 w3 w4
        simp only [go_sem, c49_0, pBox, hlt, idx_sl hx, hw, w1, w2, w3, w4, h1, reduceIte, Nat.reduceEqDiff, Nat.reduceAdd, Nat.reduceSub, Nat.reduceLT, Nat.reduceLeDiff, Nat.reduceMul, Int.reduceLT, Int.reduceLE, Int.reduceEq, Int.reduceNe, Int.reduceAdd, Int.reduceSub, Int.reduceNeg, Int.reduceMul]
      | false =>
        simp only [badN, Bool.false_eq_true, if_false] at h1 w2 w3 w4
        simp only [go_sem, c49_0, pBox, hlt, idx_sl hx, hw, w1, w2, w3, w4, h1, reduceIte, Nat.reduceEqDiff, Nat.reduceAdd, Nat.reduceSub, Nat.reduceLT, Nat.reduceLeDiff, Nat.reduceMul, Int.reduceLT, Int.reduceLE, Int.reduceEq, Int.reduceNe, Int.reduceAdd, Int.reduceSub, Int.reduceNeg, Int.reduceMul]
    · by_cases h2 : S - ((i : Int) + 1 - (badN bad f : Int)) ≤ A
      · refine stepL_out (d := (true, i + 1)) (by unfold stepDec; rw [if_neg h1, if_pos h2]) ?_
        cases f with
        | true =>
          simp only [badN, if_true] at h1 h2 w2 w3 w4
          simp only [go_sem, c49_0, pBox, hlt, idx_sl hx, hw, w1, w2, w3, w4, h1, h2, reduceIte, Nat.reduceEqDiff, Nat.reduceAdd, Nat.reduceSub, Nat.reduceLT, Nat.reduceLeDiff, Nat.reduceMul, Int.reduceLT, Int.reduceLE, Int.reduceEq, Int.reduceNe, Int.reduceAdd, Int.reduceSub, Int.reduceNeg, Int.reduceMul]
        | false =>
          simp only [badN, Bool.false_eq_true, if_false] at h1 h2 w2 w3 w4
          simp only [go_sem, c49_0, pBox, hlt, idx_sl hx, hw, w1, w2, w3, w4, h1, h2, reduceIte, Nat.reduceEqDiff, Nat.reduceAdd, Nat.reduceSub, Nat.reduceLT, Nat.reduceLeDiff, Nat.reduceMul, Int.reduceLT, Int.reduceLE, Int.reduceEq, Int.reduceNe, Int.reduceAdd, Int.reduceSub, Int.reduceNeg, Int.reduceMul]
      · refine stepL_in (s' := badN bad f) (by unfold stepDec; rw [if_neg h1, if_neg h2]) hbn ?_ (gc_same (Nat.le_refl _))
        cases f with
        | true =>
          simp only [badN, if_true] at h1 h2 w2 w3 w4 ⊢
          simp only [go_sem, c49_0, pBox, hlt, idx_sl hx, hw, w1, w2, w3, w4, h1, h2, reduceIte, Nat.reduceEqDiff, Nat.reduceAdd, Nat.reduceSub, Nat.reduceLT, Nat.reduceLeDiff, Nat.reduceMul, Int.reduceLT, Int.reduceLE, Int.reduceEq, Int.reduceNe, Int.reduceAdd, Int.reduceSub, Int.reduceNeg, Int.reduceMul]
        | false =>
          simp only [badN, Bool.false_eq_true, if_false] at h1 h2 w2 w3 w4 ⊢
          simp only [go_sem, c49_0, pBox, hlt, idx_sl hx, hw, w1, w2, w3, w4, h1, h2, reduceIte, Nat.reduceEqDiff, Nat.reduceAdd, Nat.reduceSub, Nat.reduceLT, Nat.reduceLeDiff, Nat.reduceMul, Int.reduceLT, Int.reduceLE, Int.reduceEq, Int.reduceNe, Int.reduceAdd, Int.reduceSub, Int.reduceNeg, Int.reduceMul]

end Go.Z
