/-
  Ratios and yields: the runs.
-/
import Derived.Test.YtbkpojiedkhfkaaGreatL15
import Derived.Test.YtbkpojiedkhfkaaGreatL12
set_option linter.unusedVariables false
set_option linter.unusedSimpArgs false
set_option maxRecDepth 100000
set_option linter.unusedSimpArgs false
namespace Go.Z
open Go Go.Abs
def eqsR (ks : List Kd) (neq : Bool) (h : Heap) (x y : Option AVal) : Option ORes := match x, y with
    | some (.agg a), some (.agg b) => bif Nat.beq a.length ks.length && Nat.beq b.length ks.length then (match eqCells ks a b with
      | some t => val h (.bool (bif neq then !t else t))
      | none => none) else none
    | _, _ => none
@[go_sem] theorem s_eqs {p : AProg} {xc : XC} {h0 : Nat} {al : Option (List Nat)} {e : Env} {h : Heap} {ks : List Kd} {neq : Bool} {x y : AOpd} : stepOp p xc h0 al e h (.eqs ks neq x y) = eqsR ks neq h (evalO e x) (evalO e y) := rfl
@[go_sem] theorem eqs2 {h : Heap} {a b c d : Int} : eqsR [.int, .int] false h (some (.agg [.int .i64 a, .int .i64 b])) (some (.agg [.int .i64 c, .int .i64 d])) = some ⟨.bool (decide (a = c) && decide (b = d)), false, none, h⟩ := by
  show (match eqCells [.int, .int] [.int .i64 a, .int .i64 b] [.int .i64 c, .int .i64 d] with | some t => val h (.bool (bif false then !t else t)) | none => none) = _
  have : eqCells [.int, .int] [.int .i64 a, .int .i64 b] [.int .i64 c, .int .i64 d] = some (decide (a = c) && decide (b = d)) := by
    have e : ∀ x y : Int, (x == y) = decide (x = y) := fun x y => by by_cases h : x = y <;> simp [h]
    simp only [eqCells, eqCell, e, decide_true, cond_true]
    by_cases h1 : a = c <;> by_cases h2 : b = d <;> simp [h1, h2]
  rw [this]
  rfl
theorem l101 (n d : Int) : ∀ (b a : Nat) (h : Heap), X pr (.loop c101_0) ⟨[(0, .int .i64 n, false), (1, .int .i64 d, false), (4, .ptr 0 0, false), (5, .int .i64 (a : Int), false), (6, .int .i64 (b : Int), false)], h⟩ =
    some (.exit 0, ⟨[(0, .int .i64 n, false), (1, .int .i64 d, false), (4, .ptr 0 0, false), (5, .int .i64 (Nat.gcd b a : Int), false), (6, .int .i64 0, false), (10, .bool false, false)], h⟩) := by
  intro b
  induction b using Nat.strongRecOn with
  | ind b ih =>
    intro a h
    rw [X_loop']
    by_cases hb : b = 0
    · subst hb
      simp only [go_sem, c101_0, Int.natCast_zero, Nat.gcd_zero_left, reduceIte, Nat.reduceEqDiff, Nat.reduceAdd, Nat.reduceSub, Nat.reduceLT, Nat.reduceLeDiff, Nat.reduceMul, Int.reduceLT, Int.reduceLE, Int.reduceEq, Int.reduceNe, Int.reduceAdd, Int.reduceSub, Int.reduceNeg, Int.reduceMul]
    · have hbz : ¬ (b : Int) = 0 := by omega
      have hm : ((a : Int).tmod (b : Int)) = ((a % b : Nat) : Int) := Int.ofNat_tmod a b
      have hs : X pr c101_0 ⟨[(0, .int .i64 n, false), (1, .int .i64 d, false), (4, .ptr 0 0, false), (5, .int .i64 (a : Int), false), (6, .int .i64 (b : Int), false)], h⟩ = some (.normal, ⟨[(0, .int .i64 n, false), (1, .int .i64 d, false), (4, .ptr 0 0, false), (5, .int .i64 (b : Int), false), (6, .int .i64 ((a % b : Nat) : Int), false)], h⟩) := by
        simp only [go_sem, c101_0, hbz, b_rem hbz, hm, reduceIte, Nat.reduceEqDiff, Nat.reduceAdd, Nat.reduceSub, Nat.reduceLT, Nat.reduceLeDiff, Nat.reduceMul, Int.reduceLT, Int.reduceLE, Int.reduceEq, Int.reduceNe, Int.reduceAdd, Int.reduceSub, Int.reduceNeg, Int.reduceMul]
      rw [hs, loopX_normal, gc_at, ih (a % b) (Nat.mod_lt _ (by omega)) b h, ← Nat.gcd_rec]
theorem l102 (n d : Int) : ∀ (b a : Nat) (h : Heap), X pr (.loop c102_0) ⟨[(0, .int .i64 n, false), (1, .int .i64 d, false), (4, .ptr 0 0, false), (5, .int .i64 (a : Int), false), (6, .int .i64 (b : Int), false)], h⟩ =
    some (.exit 0, ⟨[(0, .int .i64 n, false), (1, .int .i64 d, false), (4, .ptr 0 0, false), (5, .int .i64 (Nat.gcd b a : Int), false), (6, .int .i64 0, false), (19, .bool false, false)], h⟩) := by
  intro b
  induction b using Nat.strongRecOn with
  | ind b ih =>
    intro a h
    rw [X_loop']
    by_cases hb : b = 0
    · subst hb
      simp only [go_sem, c102_0, Int.natCast_zero, Nat.gcd_zero_left, reduceIte, Nat.reduceEqDiff, Nat.reduceAdd, Nat.reduceSub, Nat.reduceLT, Nat.reduceLeDiff, Nat.reduceMul, Int.reduceLT, Int.reduceLE, Int.reduceEq, Int.reduceNe, Int.reduceAdd, Int.reduceSub, Int.reduceNeg, Int.reduceMul]
    · have hbz : ¬ (b : Int) = 0 := by omega
      have hm : ((a : Int).tmod (b : Int)) = ((a % b : Nat) : Int) := Int.ofNat_tmod a b
      have hs : X pr c102_0 ⟨[(0, .int .i64 n, false), (1, .int .i64 d, false), (4, .ptr 0 0, false), (5, .int .i64 (a : Int), false), (6, .int .i64 (b : Int), false)], h⟩ = some (.normal, ⟨[(0, .int .i64 n, false), (1, .int .i64 d, false), (4, .ptr 0 0, false), (5, .int .i64 (b : Int), false), (6, .int .i64 ((a % b : Nat) : Int), false)], h⟩) := by
        simp only [go_sem, c102_0, hbz, b_rem hbz, hm, reduceIte, Nat.reduceEqDiff, Nat.reduceAdd, Nat.reduceSub, Nat.reduceLT, Nat.reduceLeDiff, Nat.reduceMul, Int.reduceLT, Int.reduceLE, Int.reduceEq, Int.reduceNe, Int.reduceAdd, Int.reduceSub, Int.reduceNeg, Int.reduceMul]
      rw [hs, loopX_normal, gc_at, ih (a % b) (Nat.mod_lt _ (by omega)) b h, ← Nat.gcd_rec]
def ratN (n d : Nat) : Int := wrapF .i64 ((n : Int).tdiv (Nat.gcd d n : Int))
def ratD (n d : Nat) : Int := wrapF .i64 ((d : Int).tdiv (Nat.gcd d n : Int))
theorem I101 (n d : Nat) (hd : 0 < d) : callIso pr (X pr) 101 [.int .i64 (n : Int), .int .i64 (d : Int)] = some (.agg [.int .i64 (ratN n d), .int .i64 (ratD n d)], false) := by
  have hg : ((Nat.gcd d n : Nat) : Int) ≠ 0 := by have := Nat.gcd_pos_of_pos_left n hd; omega
  have : ∃ hh, callFn pr (X pr) 101 [.int .i64 (n : Int), .int .i64 (d : Int)] [] = some (.agg [.int .i64 (ratN n d), .int .i64 (ratD n d)], false, hh) := by
    rw [callFn_at (show pr.fns 101 = some c101 from rfl) (by simp)]
    simp only [go_sem, c101, l101, b_quo hg, ratN, ratD, reduceIte, Nat.reduceEqDiff, Nat.reduceAdd, Nat.reduceSub, Nat.reduceLT, Nat.reduceLeDiff, Nat.reduceMul, Int.reduceLT, Int.reduceLE, Int.reduceEq, Int.reduceNe, Int.reduceAdd, Int.reduceSub, Int.reduceNeg, Int.reduceMul]
    exact ⟨_, rfl⟩
  obtain ⟨hh, this⟩ := this
  exact callIso_of rfl this rfl rfl
theorem I102 (n d : Nat) (hd : 0 < d) (hn : n ≤ 1073741824) : callIso pr (X pr) 102 [.int .i64 (n : Int), .int .i64 (d : Int)] = some (.agg [.int .i64 (ratN n d), .int .i64 (ratD n d)], false) := by
  have hg : ((Nat.gcd d n : Nat) : Int) ≠ 0 := by have := Nat.gcd_pos_of_pos_left n hd; omega
  have hneg : ¬ (d : Int) < 0 := by omega
  have hmax : max (n : Int) (wrapF .i64 (0 - (n : Int))) = (n : Int) := by rw [wrapF_i64 (by omega) (by omega)]; omega
  have : ∃ hh, callFn pr (X pr) 102 [.int .i64 (n : Int), .int .i64 (d : Int)] [] = some (.agg [.int .i64 (ratN n d), .int .i64 (ratD n d)], false, hh) := by
    rw [callFn_at (show pr.fns 102 = some c102 from rfl) (by simp)]
    simp only [go_sem, c102, hneg, hmax, l102, b_quo hg, ratN, ratD, reduceIte, Nat.reduceEqDiff, Nat.reduceAdd, Nat.reduceSub, Nat.reduceLT, Nat.reduceLeDiff, Nat.reduceMul, Int.reduceLT, Int.reduceLE, Int.reduceEq, Int.reduceNe, Int.reduceAdd, Int.reduceSub, Int.reduceNeg, Int.reduceMul]
    exact ⟨_, rfl⟩
  obtain ⟨hh, this⟩ := this
  exact callIso_of rfl this rfl rfl
def numB (have_ e bad want : Int) : Bool := if bad = 0 then decide (e = 0) && decide (have_ = want) else decide (have_ = 0) && decide (e = bad)
theorem I40 (a e bad want : Int) : callIso pr (X pr) 40 [.int .i64 a, .int .i64 e, .int .i64 bad, .int .i64 want] = some (.bool (numB a e bad want), false) := by
  have : callFn pr (X pr) 40 [.int .i64 a, .int .i64 e, .int .i64 bad, .int .i64 want] [] = some (.bool (numB a e bad want), false, []) := by
    rw [callFn_at (show pr.fns 40 = some c40 from rfl) (by simp)]
    by_cases hb : bad = 0
    · have hb' : (bad = 0) = True := by simp [hb]
      by_cases he : e = 0
      · have he' : (e = 0) = True := by simp [he]
        simp only [go_sem, c40, hb', he', numB, reduceIte, Nat.reduceEqDiff, Nat.reduceAdd, Nat.reduceSub, Nat.reduceLT, Nat.reduceLeDiff, Nat.reduceMul, Int.reduceLT, Int.reduceLE, Int.reduceEq, Int.reduceNe, Int.reduceAdd, Int.reduceSub, Int.reduceNeg, Int.reduceMul]
      · simp only [go_sem, c40, hb', he, numB, reduceIte, Nat.reduceEqDiff, Nat.reduceAdd, Nat.reduceSub, Nat.reduceLT, Nat.reduceLeDiff, Nat.reduceMul, Int.reduceLT, Int.reduceLE, Int.reduceEq, Int.reduceNe, Int.reduceAdd, Int.reduceSub, Int.reduceNeg, Int.reduceMul]
    · by_cases ha : a = 0
      · have ha' : (a = 0) = True := by simp [ha]
        simp only [go_sem, c40, hb, ha', numB, reduceIte, Nat.reduceEqDiff, Nat.reduceAdd, Nat.reduceSub, Nat.reduceLT, Nat.reduceLeDiff, Nat.reduceMul, Int.reduceLT, Int.reduceLE, Int.reduceEq, Int.reduceNe, Int.reduceAdd, Int.reduceSub, Int.reduceNeg, Int.reduceMul]
      · simp only [go_sem, c40, hb, ha, numB, reduceIte, Nat.reduceEqDiff, Nat.reduceAdd, Nat.reduceSub, Nat.reduceLT, Nat.reduceLeDiff, Nat.reduceMul, Int.reduceLT, Int.reduceLE, Int.reduceEq, Int.reduceNe, Int.reduceAdd, Int.reduceSub, Int.reduceNeg, Int.reduceMul]
  exact callIso_of rfl this rfl rfl
def ratB (a b e bad c d : Int) : Bool := if bad = 0 then decide (e = 0) && (decide (a = c) && decide (b = d)) else (decide (a = 0) && decide (b = 0)) && decide (e = bad)
theorem I41 (a b e bad c d : Int) : callIso pr (X pr) 41 [.agg [.int .i64 a, .int .i64 b], .int .i64 e, .int .i64 bad, .agg [.int .i64 c, .int .i64 d]] = some (.bool (ratB a b e bad c d), false) := by
  have : ∃ hh, callFn pr (X pr) 41 [.agg [.int .i64 a, .int .i64 b], .int .i64 e, .int .i64 bad, .agg [.int .i64 c, .int .i64 d]] [] = some (.bool (ratB a b e bad c d), false, hh) := by
    rw [callFn_at (show pr.fns 41 = some c41 from rfl) (by simp)]
    by_cases hb : bad = 0
    · have hb' : (bad = 0) = True := by simp [hb]
      by_cases he : e = 0
      · have he' : (e = 0) = True := by simp [he]
        simp only [go_sem, c41, hb', he', ratB, reduceIte, Nat.reduceEqDiff, Nat.reduceAdd, Nat.reduceSub, Nat.reduceLT, Nat.reduceLeDiff, Nat.reduceMul, Int.reduceLT, Int.reduceLE, Int.reduceEq, Int.reduceNe, Int.reduceAdd, Int.reduceSub, Int.reduceNeg, Int.reduceMul]
        exact ⟨_, rfl⟩
      · simp only [go_sem, c41, hb', he, ratB, reduceIte, Nat.reduceEqDiff, Nat.reduceAdd, Nat.reduceSub, Nat.reduceLT, Nat.reduceLeDiff, Nat.reduceMul, Int.reduceLT, Int.reduceLE, Int.reduceEq, Int.reduceNe, Int.reduceAdd, Int.reduceSub, Int.reduceNeg, Int.reduceMul]
        exact ⟨_, rfl⟩
    · by_cases ha : (decide (a = 0) && decide (b = 0)) = true
      · simp only [go_sem, c41, hb, ha, ratB, reduceIte, Nat.reduceEqDiff, Nat.reduceAdd, Nat.reduceSub, Nat.reduceLT, Nat.reduceLeDiff, Nat.reduceMul, Int.reduceLT, Int.reduceLE, Int.reduceEq, Int.reduceNe, Int.reduceAdd, Int.reduceSub, Int.reduceNeg, Int.reduceMul]
        exact ⟨_, rfl⟩
      · have ha' : (decide (a = 0) && decide (b = 0)) = false := by simpa using ha
        simp only [go_sem, c41, hb, ha', ratB, reduceIte, Nat.reduceEqDiff, Nat.reduceAdd, Nat.reduceSub, Nat.reduceLT, Nat.reduceLeDiff, Nat.reduceMul, Int.reduceLT, Int.reduceLE, Int.reduceEq, Int.reduceNe, Int.reduceAdd, Int.reduceSub, Int.reduceNeg, Int.reduceMul]
        exact ⟨_, rfl⟩
  obtain ⟨hh, this⟩ := this
  exact callIso_of rfl this rfl rfl
def passB (m : GMask) (u : GUnit) : Bool := decide (failsL m 0 (u.values.getD []) = [])
def yieldN (m : GMask) (l : List GUnit) : Nat := l.countP (passB m)
theorem runL_yield (m : GMask) : ∀ (l : List GUnit) (i n : Nat), runL (δ := Empty) (fun _ n u => .inl (if passB m u = true then n + 1 else n)) i n l = .inl (n + yieldN m l)
  | [], _, _ => rfl
  | u :: l, i, n => by
    simp only [runL]
    rw [runL_yield m l (i + 1)]
    unfold yieldN
    by_cases h : passB m u = true
    · simp only [h, if_true, List.countP_cons_of_pos]; congr 1; omega
    · simp [h]
theorem pass_len {m : GMask} {u : GUnit} : ((((nonNil (failsL m 0 (u.values.getD []))).getD []).length : Int) = 0) = (passB m u = true) := by
  rw [nonNil_getD]
  unfold passB
  cases failsL m 0 (u.values.getD []) with
  | nil => simp
  | cons a l => simp; omega
theorem l34 (m : GMask) (o : Option (List GUnit)) (b1 : ABox) (hb1 : ∀ n, belowBox n b1 = true) (hn : (o.getD []).length ≤ 1073741824) (he : (m.least.getD []).length = (m.most.getD []).length) (hu : ∀ u ∈ o.getD [], (u.values.getD []).length = (m.least.getD []).length) (hv : ∀ u ∈ o.getD [], sizeU u) :
    X pr (.loop c34_0) ⟨[(1, sl 2 vunit o, false), (2, .ptr 0 0, false), (4, .ptr 1 0, false), (7, .int .i64 0, false), (34, sl 2 vunit o, false), (35, .int .i64 ((o.getD []).length : Int), false), (36, .int .i64 0, false)], [mBox m, b1]⟩ =
      some (.exit 0, ⟨[(1, sl 2 vunit o, false), (2, .ptr 0 0, false), (4, .ptr 1 0, false), (7, .int .i64 (yieldN m (o.getD []) : Int), false), (34, sl 2 vunit o, false), (35, .int .i64 ((o.getD []).length : Int), false), (36, .int .i64 ((o.getD []).length : Int), false), (37, .bool false, false)], [mBox m, b1]⟩) := by
  have := X_loop_list (p := pr) (c := c34_0) (δ := Empty) (o.getD []) (fun i (n : Nat) => ⟨[(1, sl 2 vunit o, false), (2, .ptr 0 0, false), (4, .ptr 1 0, false), (7, .int .i64 (n : Int), false), (34, sl 2 vunit o, false), (35, .int .i64 ((o.getD []).length : Int), false), (36, .int .i64 (i : Int), false)], [mBox m, b1]⟩)
    (fun _ n u => .inl (if passB m u = true then n + 1 else n))
    (fun n => (.exit 0, ⟨[(1, sl 2 vunit o, false), (2, .ptr 0 0, false), (4, .ptr 1 0, false), (7, .int .i64 (n : Int), false), (34, sl 2 vunit o, false), (35, .int .i64 ((o.getD []).length : Int), false), (36, .int .i64 ((o.getD []).length : Int), false), (37, .bool false, false)], [mBox m, b1]⟩))
    (fun d => nomatch d) (fun i n => n ≤ i) 0 (fun _ h => by cases h) (fun d => nomatch d) ?_ ?_ (Nat.le_refl _)
  · rw [Int.natCast_zero, runL_yield, Nat.zero_add] at this
    exact this
  · intro s _
    have hlt : ¬ (((o.getD []).length : Int) < ((o.getD []).length : Int)) := by omega
    simp only [go_sem, c34_0, hlt, reduceIte, Nat.reduceEqDiff, Nat.reduceAdd, Nat.reduceSub, Nat.reduceLT, Nat.reduceLeDiff, Nat.reduceMul, Int.reduceLT, Int.reduceLE, Int.reduceEq, Int.reduceNe, Int.reduceAdd, Int.reduceSub, Int.reduceNeg, Int.reduceMul]
  · intro i n u hx hi hni
    have hlt : (i : Int) < ((o.getD []).length : Int) := by omega
    have hw := wrap_succ hi (by omega)
    have hmem := List.mem_of_getElem? hx
    have h1 := hu u hmem
    have h100 := I100 m u (hv u hmem).2 h1 (by omega)
    have hpl := pass_len (m := m) (u := u)
    refine stepL_in (s' := if passB m u = true then n + 1 else n) (st' := ⟨[(1, sl 2 vunit o, false), (2, .ptr 0 0, false), (4, .ptr 1 0, false), (7, .int .i64 ((if passB m u = true then n + 1 else n : Nat) : Int), false), (34, sl 2 vunit o, false), (35, .int .i64 ((o.getD []).length : Int), false), (36, .int .i64 ((i + 1 : Nat) : Int), false)], [mBox m, b1] ++ [uBox u]⟩) rfl (by split <;> omega) ?_ (gc_over rfl rfl ?_ ?_)
    · by_cases hp : passB m u = true
      · have hwn : wrapF .i64 ((n : Int) + 1) = ((n + 1 : Nat) : Int) := wrap_succ (n := n + 1) (by omega) (by omega)
        rw [if_pos hp]
        simp only [go_sem, c34_0, mBox, uBox, hlt, idx_sl hx, h100, hpl, hp, hw, hwn, reduceIte, Nat.reduceEqDiff, Nat.reduceAdd, Nat.reduceSub, Nat.reduceLT, Nat.reduceLeDiff, Nat.reduceMul, Int.reduceLT, Int.reduceLE, Int.reduceEq, Int.reduceNe, Int.reduceAdd, Int.reduceSub, Int.reduceNeg, Int.reduceMul]
      · have hp' : passB m u = false := by simpa using hp
        rw [if_neg hp]
        simp only [go_sem, c34_0, mBox, uBox, hlt, idx_sl hx, h100, hpl, hp', hw, Bool.false_eq_true, reduceIte, Nat.reduceEqDiff, Nat.reduceAdd, Nat.reduceSub, Nat.reduceLT, Nat.reduceLeDiff, Nat.reduceMul, Int.reduceLT, Int.reduceLE, Int.reduceEq, Int.reduceNe, Int.reduceAdd, Int.reduceSub, Int.reduceNeg, Int.reduceMul]
    · simp only [go_sem, mBox, reduceIte, Nat.reduceEqDiff, Nat.reduceAdd, Nat.reduceSub, Nat.reduceLT, Nat.reduceLeDiff, Nat.reduceMul, Int.reduceLT, Int.reduceLE, Int.reduceEq, Int.reduceNe, Int.reduceAdd, Int.reduceSub, Int.reduceNeg, Int.reduceMul]
    · simp only [go_sem, mBox, hb1, reduceIte, Nat.reduceEqDiff, Nat.reduceAdd, Nat.reduceSub, Nat.reduceLT, Nat.reduceLeDiff, Nat.reduceMul, Int.reduceLT, Int.reduceLE, Int.reduceEq, Int.reduceNe, Int.reduceAdd, Int.reduceSub, Int.reduceNeg, Int.reduceMul]
theorem l38 (m : GMask) (o : Option (List GUnit)) (b1 : ABox) (hn : (o.getD []).length ≤ 1073741824) (he : (m.least.getD []).length = (m.most.getD []).length) (hu : ∀ u ∈ o.getD [], (u.values.getD []).length = (m.least.getD []).length) (hv : ∀ u ∈ o.getD [], sizeU u) :
    X pr (.loop c38_0) ⟨[(1, sl 2 vunit o, false), (2, .ptr 0 0, false), (4, .ptr 1 0, false), (5, .int .i64 0, false), (6, .int .i64 0, false)], [mBox m, b1]⟩ =
      some (.exit 0, ⟨[(1, sl 2 vunit o, false), (2, .ptr 0 0, false), (4, .ptr 1 0, false), (5, .int .i64 (yieldN m (o.getD []) : Int), false), (6, .int .i64 ((o.getD []).length : Int), false), (10, .bool false, false)], [mBox m, b1]⟩) := by
  have := X_loop_list (p := pr) (c := c38_0) (δ := Empty) (o.getD []) (fun i (n : Nat) => ⟨[(1, sl 2 vunit o, false), (2, .ptr 0 0, false), (4, .ptr 1 0, false), (5, .int .i64 (n : Int), false), (6, .int .i64 (i : Int), false)], [mBox m, b1]⟩)
    (fun _ n u => .inl (if passB m u = true then n + 1 else n))
    (fun n => (.exit 0, ⟨[(1, sl 2 vunit o, false), (2, .ptr 0 0, false), (4, .ptr 1 0, false), (5, .int .i64 (n : Int), false), (6, .int .i64 ((o.getD []).length : Int), false), (10, .bool false, false)], [mBox m, b1]⟩))
    (fun d => nomatch d) (fun i n => n ≤ i) 0 (fun _ h => by cases h) (fun d => nomatch d) ?_ ?_ (Nat.le_refl _)
  · rw [Int.natCast_zero, runL_yield, Nat.zero_add] at this
    exact this
  · intro s _
    have hlt : ¬ (((o.getD []).length : Int) < ((o.getD []).length : Int)) := by omega
    simp only [go_sem, c38_0, hlt, reduceIte, Nat.reduceEqDiff, Nat.reduceAdd, Nat.reduceSub, Nat.reduceLT, Nat.reduceLeDiff, Nat.reduceMul, Int.reduceLT, Int.reduceLE, Int.reduceEq, Int.reduceNe, Int.reduceAdd, Int.reduceSub, Int.reduceNeg, Int.reduceMul]
  · intro i n u hx hi hni
    have hlt : (i : Int) < ((o.getD []).length : Int) := by omega
    have hw := wrap_succ hi (by omega)
    have hmem := List.mem_of_getElem? hx
    have h1 := hu u hmem
    have h36 := I36 m u (hv u hmem).2 h1 (by omega)
    have hpl := pass_len (m := m) (u := u)
    refine stepL_in (s' := if passB m u = true then n + 1 else n) rfl (by split <;> omega) ?_ (gc_same (Nat.le_refl _))
    by_cases hp : passB m u = true
    · have hwn : wrapF .i64 ((n : Int) + 1) = ((n + 1 : Nat) : Int) := wrap_succ (n := n + 1) (by omega) (by omega)
      rw [if_pos hp]
      simp only [go_sem, c38_0, mBox, uBox, hlt, idx_sl hx, h36, hpl, hp, hw, hwn, reduceIte, Nat.reduceEqDiff, Nat.reduceAdd, Nat.reduceSub, Nat.reduceLT, Nat.reduceLeDiff, Nat.reduceMul, Int.reduceLT, Int.reduceLE, Int.reduceEq, Int.reduceNe, Int.reduceAdd, Int.reduceSub, Int.reduceNeg, Int.reduceMul]
    · have hp' : passB m u = false := by simpa using hp
      rw [if_neg hp]
      simp only [go_sem, c38_0, mBox, uBox, hlt, idx_sl hx, h36, hpl, hp', hw, Bool.false_eq_true, reduceIte, Nat.reduceEqDiff, Nat.reduceAdd, Nat.reduceSub, Nat.reduceLT, Nat.reduceLeDiff, Nat.reduceMul, Int.reduceLT, Int.reduceLE, Int.reduceEq, Int.reduceNe, Int.reduceAdd, Int.reduceSub, Int.reduceNeg, Int.reduceMul]
theorem yield_le (m : GMask) (l : List GUnit) : yieldN m l ≤ l.length := List.countP_le_length
theorem I38 (m : GMask) (o : Option (List GUnit)) (hne : o.getD [] ≠ []) (hn : (o.getD []).length ≤ 1073741824) (he : (m.least.getD []).length = (m.most.getD []).length) (hu : ∀ u ∈ o.getD [], (u.values.getD []).length = (m.least.getD []).length) (hv : ∀ u ∈ o.getD [], sizeU u) :
    callIso pr (X pr) 38 [.agg [sl 1 vint m.least, sl 1 vint m.most], sl 2 vunit o] = some (.agg [.int .i64 (ratN (yieldN m (o.getD [])) (o.getD []).length), .int .i64 (ratD (yieldN m (o.getD [])) (o.getD []).length)], false) := by
  have hl := l38 m o (.cells [(.int .i64 0, false), (.int .i64 0, false)]) hn he hu hv
  simp only [mBox] at hl
  have hpos : 0 < (o.getD []).length := List.length_pos_iff.2 hne
  have h102 := I102 (yieldN m (o.getD [])) (o.getD []).length hpos (by have := yield_le m (o.getD []); omega)
  have : ∃ hh, callFn pr (X pr) 38 [.agg [sl 1 vint m.least, sl 1 vint m.most], sl 2 vunit o] [] = some (.agg [.int .i64 (ratN (yieldN m (o.getD [])) (o.getD []).length), .int .i64 (ratD (yieldN m (o.getD [])) (o.getD []).length)], false, hh) := by
    rw [callFn_at (show pr.fns 38 = some c38 from rfl) (by simp)]
    simp only [go_sem, c38, hl, h102, reduceIte, Nat.reduceEqDiff, Nat.reduceAdd, Nat.reduceSub, Nat.reduceLT, Nat.reduceLeDiff, Nat.reduceMul, Int.reduceLT, Int.reduceLE, Int.reduceEq, Int.reduceNe, Int.reduceAdd, Int.reduceSub, Int.reduceNeg, Int.reduceMul]
    exact ⟨_, rfl⟩
  obtain ⟨hh, this⟩ := this
  exact callIso_of rfl this rfl rfl
def yieldA (m : GMask) (l : List GUnit) : Int := firstNZ [maskE m, unitsE l]
def yieldE (m : GMask) (l : List GUnit) : Int := if yieldA m l = 0 then (if l = [] then 12 else if lenN l = (m.least.getD []).length then 0 else 2) else yieldA m l
def yieldV (m : GMask) (l : List GUnit) : Int × Int := if yieldE m l = 0 then (ratN (yieldN m l) l.length, ratD (yieldN m l) l.length) else (0, 0)
theorem yieldE_zero {m : GMask} {l : List GUnit} (h : yieldE m l = 0) : maskE m = 0 ∧ unitsE l = 0 ∧ l ≠ [] ∧ lenN l = (m.least.getD []).length := by
  unfold yieldE at h
  by_cases hz : yieldA m l = 0
  · rw [if_pos hz] at h
    by_cases hl : l = []
    · rw [if_pos hl] at h; cases h
    · rw [if_neg hl] at h
      by_cases hn : lenN l = (m.least.getD []).length
      · exact ⟨firstNZ_zero hz _ (List.mem_cons_self ..), firstNZ_zero hz _ (List.mem_cons_of_mem _ (List.mem_cons_self ..)), hl, hn⟩
      · rw [if_neg hn] at h; cases h
  · rw [if_neg hz] at h; exact absurd h hz
theorem I34 (m : GMask) (o : Option (List GUnit)) (hm : (m.least.getD []).length ≤ 1073741824) (hn : (o.getD []).length ≤ 1073741824) (hv : ∀ u ∈ o.getD [], sizeU u) :
    callIso pr (X pr) 34 [.agg [sl 1 vint m.least, sl 1 vint m.most], sl 2 vunit o] = some (.tup [.agg [.int .i64 (yieldV m (o.getD [])).1, .int .i64 (yieldV m (o.getD [])).2], .int .i64 (yieldE m (o.getD []))], false) := by
  have : ∃ hh, callFn pr (X pr) 34 [.agg [sl 1 vint m.least, sl 1 vint m.most], sl 2 vunit o] [] = some (.tup [.agg [.int .i64 (yieldV m (o.getD [])).1, .int .i64 (yieldV m (o.getD [])).2], .int .i64 (yieldE m (o.getD []))], false, hh) := by
    rw [callFn_at (show pr.fns 34 = some c34 from rfl) (by simp)]
    have hz' : firstNZ [maskE m, unitsE (o.getD [])] = yieldA m (o.getD []) := rfl
    have h29 := I29 m hm
    have h28 := I28 o hn hv
    by_cases hz : yieldA m (o.getD []) = 0
    · by_cases hl : o.getD [] = []
      · have hE : yieldE m (o.getD []) = 12 := by unfold yieldE; rw [if_pos hz, if_pos hl]
        have hV : yieldV m (o.getD []) = (0, 0) := by unfold yieldV; rw [hE]; rfl
        have hlen : (((o.getD []).length : Int) = 0) = True := by simp [hl]
        rw [hE, hV]
        simp only [go_sem, c34, h29, h28, I87_2, hz', hz, hlen, reduceIte, Nat.reduceEqDiff, Nat.reduceAdd, Nat.reduceSub, Nat.reduceLT, Nat.reduceLeDiff, Nat.reduceMul, Int.reduceLT, Int.reduceLE, Int.reduceEq, Int.reduceNe, Int.reduceAdd, Int.reduceSub, Int.reduceNeg, Int.reduceMul]
        exact ⟨_, rfl⟩
      · have hpos : 0 < (o.getD []).length := List.length_pos_iff.2 hl
        have hlen : ¬ ((o.getD []).length : Int) = 0 := by omega
        obtain ⟨u0, h0⟩ : ∃ u0, (o.getD [])[0]? = some u0 := by
          cases hc : o.getD [] with
          | nil => exact absurd hc hl
          | cons a l => exact ⟨a, rfl⟩
        have hlf := len_first h0
        by_cases hnn : lenN (o.getD []) = (m.least.getD []).length
        · have hE : yieldE m (o.getD []) = 0 := by unfold yieldE; rw [if_pos hz, if_neg hl, if_pos hnn]
          have hV : yieldV m (o.getD []) = (ratN (yieldN m (o.getD [])) (o.getD []).length, ratD (yieldN m (o.getD [])) (o.getD []).length) := by unfold yieldV; rw [if_pos hE]
          obtain ⟨k1, k2, k3, k4⟩ := yieldE_zero hE
          have hul := units_len k2
          have hloop := l34 m o (.cells [(.int .i64 0, false), (.int .i64 0, false)]) (fun n => rfl) hn (maskE_len k1) (fun u hu => by rw [hul u hu, hnn]) hv
          simp only [mBox] at hloop
          have h101 := I101 (yieldN m (o.getD [])) (o.getD []).length hpos
          have heq : (((u0.values.getD []).length : Int) = ((m.least.getD []).length : Int)) = True := by simp [hlf, hnn]
          rw [hE, hV]
          simp only [go_sem, c34, h29, h28, I87_2, hz', hz, hlen, idx_sl0 h0, heq, hloop, h101, reduceIte, Nat.reduceEqDiff, Nat.reduceAdd, Nat.reduceSub, Nat.reduceLT, Nat.reduceLeDiff, Nat.reduceMul, Int.reduceLT, Int.reduceLE, Int.reduceEq, Int.reduceNe, Int.reduceAdd, Int.reduceSub, Int.reduceNeg, Int.reduceMul]
          exact ⟨_, rfl⟩
        · have hE : yieldE m (o.getD []) = 2 := by unfold yieldE; rw [if_pos hz, if_neg hl, if_neg hnn]
          have hV : yieldV m (o.getD []) = (0, 0) := by unfold yieldV; rw [hE]; rfl
          have heq : ¬ ((u0.values.getD []).length : Int) = ((m.least.getD []).length : Int) := by omega
          rw [hE, hV]
          simp only [go_sem, c34, h29, h28, I87_2, hz', hz, hlen, idx_sl0 h0, heq, reduceIte, Nat.reduceEqDiff, Nat.reduceAdd, Nat.reduceSub, Nat.reduceLT, Nat.reduceLeDiff, Nat.reduceMul, Int.reduceLT, Int.reduceLE, Int.reduceEq, Int.reduceNe, Int.reduceAdd, Int.reduceSub, Int.reduceNeg, Int.reduceMul]
          exact ⟨_, rfl⟩
    · have hE : yieldE m (o.getD []) = yieldA m (o.getD []) := if_neg hz
      have hV : yieldV m (o.getD []) = (0, 0) := by unfold yieldV; rw [hE, if_neg hz]
      rw [hE, hV]
      simp only [go_sem, c34, h29, h28, I87_2, hz', hz, reduceIte, Nat.reduceEqDiff, Nat.reduceAdd, Nat.reduceSub, Nat.reduceLT, Nat.reduceLeDiff, Nat.reduceMul, Int.reduceLT, Int.reduceLE, Int.reduceEq, Int.reduceNe, Int.reduceAdd, Int.reduceSub, Int.reduceNeg, Int.reduceMul]
      exact ⟨_, rfl⟩
  obtain ⟨hh, this⟩ := this
  exact callIso_of rfl this rfl rfl
end Go.Z
