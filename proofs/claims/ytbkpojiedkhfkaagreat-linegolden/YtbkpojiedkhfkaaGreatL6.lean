/-
  The checks of lists of units and of masks: their runs.
-/
import Derived.Test.YtbkpojiedkhfkaaGreatL5
set_option linter.unusedVariables false
set_option linter.unusedSimpArgs false
set_option maxRecDepth 100000
set_option linter.unusedSimpArgs false
namespace Go.Z
open Go Go.Abs
theorem runL_first {α : Type} (q : α → Int) : ∀ (l : List α) (i : Nat), runL (γ := Unit) (δ := Int) (fun _ _ x => if q x = 0 then .inl () else .inr (q x)) i () l = if firstNZ (l.map q) = 0 then .inl () else .inr (firstNZ (l.map q))
  | [], _ => rfl
  | x :: l, i => by
    simp only [runL, List.map_cons, firstNZ]
    by_cases hz : q x = 0
    · simp only [hz, if_true]
      exact runL_first q l (i + 1)
    · simp only [if_neg hz]
def maskA (m : GMask) : Int := firstNZ [whenE (decide (((m.least.getD []).length : Int) = 0)) 12, whenE (decide ((16 : Int) < ((m.least.getD []).length : Int))) 5, whenE (!decide (((m.most.getD []).length : Int) = ((m.least.getD []).length : Int))) 2]
def pairE (xy : Int × Int) : Int := firstNZ [checkRange xy.1 (-100000) 100000, checkRange xy.2 (-100000) 100000, whenE (decide (xy.2 < xy.1)) 11]
def maskE (m : GMask) : Int := if maskA m = 0 then firstNZ (((m.least.getD []).zip (m.most.getD [])).map pairE) else maskA m
theorem maskA_len {m : GMask} (h : maskA m = 0) : (m.least.getD []).length = (m.most.getD []).length := by
  by_cases hh : ((m.most.getD []).length : Int) = ((m.least.getD []).length : Int)
  · omega
  · exfalso
    revert h
    simp only [maskA, firstNZ, whenE, hh]
    split <;> simp_all <;> split <;> simp_all
theorem l25 (m : GMask) (hn : (m.least.getD []).length ≤ 1073741824) (he : (m.least.getD []).length = (m.most.getD []).length) :
    X pr (.loop c25_0) ⟨[(1, .ptr 0 0, false), (4, .int .i64 0, false)], [.cells [(sl 1 vint m.least, false), (sl 1 vint m.most, false)]]⟩ =
      some (if firstNZ (((m.least.getD []).zip (m.most.getD [])).map pairE) = 0 then (.exit 0, ⟨[(1, .ptr 0 0, false), (4, .int .i64 ((m.least.getD []).length : Int), false), (33, .bool false, false)], [.cells [(sl 1 vint m.least, false), (sl 1 vint m.most, false)]]⟩)
        else (.ret, ⟨[(2, .int .i64 (firstNZ (((m.least.getD []).zip (m.most.getD [])).map pairE)), false)], [.cells [(sl 1 vint m.least, false), (sl 1 vint m.most, false)]]⟩)) := by
  have hz : ((m.least.getD []).zip (m.most.getD [])).length = (m.least.getD []).length := by rw [List.length_zip]; omega
  have := X_loop_list (p := pr) (c := c25_0) ((m.least.getD []).zip (m.most.getD [])) (fun i (_ : Unit) => ⟨[(1, .ptr 0 0, false), (4, .int .i64 (i : Int), false)], [.cells [(sl 1 vint m.least, false), (sl 1 vint m.most, false)]]⟩)
    (fun _ _ x => if pairE x = 0 then .inl () else .inr (pairE x)) (fun _ => (.exit 0, ⟨[(1, .ptr 0 0, false), (4, .int .i64 ((m.least.getD []).length : Int), false), (33, .bool false, false)], [.cells [(sl 1 vint m.least, false), (sl 1 vint m.most, false)]]⟩))
    (fun (e : Int) => (.ret, ⟨[(2, .int .i64 e, false)], [.cells [(sl 1 vint m.least, false), (sl 1 vint m.most, false)]]⟩)) (fun _ _ => True) () (fun _ h => by cases h) (fun _ h => by cases h) ?_ ?_ trivial
  · rw [Int.natCast_zero] at this
    rw [this, runL_first]
    split <;> rfl
  · intro s _
    have hlt : ¬ (((m.least.getD []).length : Int) < ((m.least.getD []).length : Int)) := by omega
    simp only [hz]
    simp only [go_sem, c25_0, hlt, reduceIte, Nat.reduceEqDiff, Nat.reduceAdd, Nat.reduceSub, Nat.reduceLT, Nat.reduceLeDiff, Nat.reduceMul, Int.reduceLT, Int.reduceLE, Int.reduceEq, Int.reduceNe, Int.reduceAdd, Int.reduceSub, Int.reduceNeg, Int.reduceMul]
  · intro i s xy hx hi _
    have hi' : i < (m.least.getD []).length := by omega
    have hlt : (i : Int) < ((m.least.getD []).length : Int) := by omega
    obtain ⟨x, y⟩ := xy
    obtain ⟨hxa, hxb⟩ : (m.least.getD [])[i]? = some x ∧ (m.most.getD [])[i]? = some y := by
      rw [List.getElem?_zip_eq_some] at hx; exact hx
    have hw := wrap_succ hi' (by omega)
    unfold stepL
    by_cases hxy : pairE (x, y) = 0
    · simp only [if_pos hxy]
      refine ⟨trivial, _, ?_, gc_same (Nat.le_refl _)⟩
      simp only [pairE] at hxy
      simp only [go_sem, c25_0, hlt, idx_sl hxa, idx_sl hxb, I23, I96, I94_3, hw, hxy, reduceIte, Nat.reduceEqDiff, Nat.reduceAdd, Nat.reduceSub, Nat.reduceLT, Nat.reduceLeDiff, Nat.reduceMul, Int.reduceLT, Int.reduceLE, Int.reduceEq, Int.reduceNe, Int.reduceAdd, Int.reduceSub, Int.reduceNeg, Int.reduceMul]
    · simp only [if_neg hxy]
      simp only [pairE] at hxy
      simp only [go_sem, c25_0, hlt, idx_sl hxa, idx_sl hxb, I23, I96, I94_3, hxy, pairE, reduceIte, Nat.reduceEqDiff, Nat.reduceAdd, Nat.reduceSub, Nat.reduceLT, Nat.reduceLeDiff, Nat.reduceMul, Int.reduceLT, Int.reduceLE, Int.reduceEq, Int.reduceNe, Int.reduceAdd, Int.reduceSub, Int.reduceNeg, Int.reduceMul]
theorem I25 (m : GMask) (hn : (m.least.getD []).length ≤ 1073741824) : callIso pr (X pr) 25 [.agg [sl 1 vint m.least, sl 1 vint m.most]] = some (.int .i64 (maskE m), false) := by
  have : ∃ hh, callFn pr (X pr) 25 [.agg [sl 1 vint m.least, sl 1 vint m.most]] [] = some (.int .i64 (maskE m), false, hh) := by
    rw [callFn_at (show pr.fns 25 = some c25 from rfl) (by simp)]
    unfold maskE
    by_cases hz : maskA m = 0
    · rw [if_pos hz]
      have hl := l25 m hn (maskA_len hz)
      simp only [maskA] at hz
      by_cases h3 : firstNZ (((m.least.getD []).zip (m.most.getD [])).map pairE) = 0
      · rw [if_pos h3] at hl
        rw [h3]
        simp only [go_sem, c25, I96, I94_3, hz, hl, reduceIte, Nat.reduceEqDiff, Nat.reduceAdd, Nat.reduceSub, Nat.reduceLT, Nat.reduceLeDiff, Nat.reduceMul, Int.reduceLT, Int.reduceLE, Int.reduceEq, Int.reduceNe, Int.reduceAdd, Int.reduceSub, Int.reduceNeg, Int.reduceMul]
        exact ⟨_, rfl⟩
      · rw [if_neg h3] at hl
        simp only [go_sem, c25, I96, I94_3, hz, hl, reduceIte, Nat.reduceEqDiff, Nat.reduceAdd, Nat.reduceSub, Nat.reduceLT, Nat.reduceLeDiff, Nat.reduceMul, Int.reduceLT, Int.reduceLE, Int.reduceEq, Int.reduceNe, Int.reduceAdd, Int.reduceSub, Int.reduceNeg, Int.reduceMul]
        exact ⟨_, rfl⟩
    · rw [if_neg hz]
      simp only [maskA] at hz ⊢
      simp only [go_sem, c25, I96, I94_3, hz, reduceIte, Nat.reduceEqDiff, Nat.reduceAdd, Nat.reduceSub, Nat.reduceLT, Nat.reduceLeDiff, Nat.reduceMul, Int.reduceLT, Int.reduceLE, Int.reduceEq, Int.reduceNe, Int.reduceAdd, Int.reduceSub, Int.reduceNeg, Int.reduceMul]
      exact ⟨_, rfl⟩
  obtain ⟨hh, this⟩ := this
  exact callIso_of rfl this rfl rfl
theorem l29 (m : GMask) (hn : (m.least.getD []).length ≤ 1073741824) (he : (m.least.getD []).length = (m.most.getD []).length) :
    X pr (.loop c29_0) ⟨[(1, .ptr 0 0, false), (27, .int .i64 ((m.least.getD []).length : Int), false), (28, .int .i64 0, false)], [.cells [(sl 1 vint m.least, false), (sl 1 vint m.most, false)]]⟩ =
      some (if firstNZ (((m.least.getD []).zip (m.most.getD [])).map pairE) = 0 then (.exit 0, ⟨[(1, .ptr 0 0, false), (27, .int .i64 ((m.least.getD []).length : Int), false), (28, .int .i64 ((m.least.getD []).length : Int), false), (29, .bool false, false)], [.cells [(sl 1 vint m.least, false), (sl 1 vint m.most, false)]]⟩)
        else (.ret, ⟨[(2, .int .i64 (firstNZ (((m.least.getD []).zip (m.most.getD [])).map pairE)), false)], [.cells [(sl 1 vint m.least, false), (sl 1 vint m.most, false)]]⟩)) := by
  have hz : ((m.least.getD []).zip (m.most.getD [])).length = (m.least.getD []).length := by rw [List.length_zip]; omega
  have := X_loop_list (p := pr) (c := c29_0) ((m.least.getD []).zip (m.most.getD [])) (fun i (_ : Unit) => ⟨[(1, .ptr 0 0, false), (27, .int .i64 ((m.least.getD []).length : Int), false), (28, .int .i64 (i : Int), false)], [.cells [(sl 1 vint m.least, false), (sl 1 vint m.most, false)]]⟩)
    (fun _ _ x => if pairE x = 0 then .inl () else .inr (pairE x)) (fun _ => (.exit 0, ⟨[(1, .ptr 0 0, false), (27, .int .i64 ((m.least.getD []).length : Int), false), (28, .int .i64 ((m.least.getD []).length : Int), false), (29, .bool false, false)], [.cells [(sl 1 vint m.least, false), (sl 1 vint m.most, false)]]⟩))
    (fun (e : Int) => (.ret, ⟨[(2, .int .i64 e, false)], [.cells [(sl 1 vint m.least, false), (sl 1 vint m.most, false)]]⟩)) (fun _ _ => True) () (fun _ h => by cases h) (fun _ h => by cases h) ?_ ?_ trivial
  · rw [Int.natCast_zero] at this
    rw [this, runL_first]
    split <;> rfl
  · intro s _
    have hlt : ¬ (((m.least.getD []).length : Int) < ((m.least.getD []).length : Int)) := by omega
    simp only [hz]
    simp only [go_sem, c29_0, hlt, reduceIte, Nat.reduceEqDiff, Nat.reduceAdd, Nat.reduceSub, Nat.reduceLT, Nat.reduceLeDiff, Nat.reduceMul, Int.reduceLT, Int.reduceLE, Int.reduceEq, Int.reduceNe, Int.reduceAdd, Int.reduceSub, Int.reduceNeg, Int.reduceMul]
  · intro i s xy hx hi _
    have hi' : i < (m.least.getD []).length := by omega
    have hlt : (i : Int) < ((m.least.getD []).length : Int) := by omega
    obtain ⟨x, y⟩ := xy
    obtain ⟨hxa, hxb⟩ : (m.least.getD [])[i]? = some x ∧ (m.most.getD [])[i]? = some y := by
      rw [List.getElem?_zip_eq_some] at hx; exact hx
    have hw := wrap_succ hi' (by omega)
    unfold stepL
    by_cases hxy : pairE (x, y) = 0
    · simp only [if_pos hxy]
      refine ⟨trivial, _, ?_, gc_same (Nat.le_refl _)⟩
      simp only [pairE] at hxy
      simp only [go_sem, c29_0, hlt, idx_sl hxa, idx_sl hxb, I98, I89, I87_3, hw, hxy, reduceIte, Nat.reduceEqDiff, Nat.reduceAdd, Nat.reduceSub, Nat.reduceLT, Nat.reduceLeDiff, Nat.reduceMul, Int.reduceLT, Int.reduceLE, Int.reduceEq, Int.reduceNe, Int.reduceAdd, Int.reduceSub, Int.reduceNeg, Int.reduceMul]
    · simp only [if_neg hxy]
      simp only [pairE] at hxy
      simp only [go_sem, c29_0, hlt, idx_sl hxa, idx_sl hxb, I98, I89, I87_3, hxy, pairE, reduceIte, Nat.reduceEqDiff, Nat.reduceAdd, Nat.reduceSub, Nat.reduceLT, Nat.reduceLeDiff, Nat.reduceMul, Int.reduceLT, Int.reduceLE, Int.reduceEq, Int.reduceNe, Int.reduceAdd, Int.reduceSub, Int.reduceNeg, Int.reduceMul]
theorem I29 (m : GMask) (hn : (m.least.getD []).length ≤ 1073741824) : callIso pr (X pr) 29 [.agg [sl 1 vint m.least, sl 1 vint m.most]] = some (.int .i64 (maskE m), false) := by
  have : ∃ hh, callFn pr (X pr) 29 [.agg [sl 1 vint m.least, sl 1 vint m.most]] [] = some (.int .i64 (maskE m), false, hh) := by
    rw [callFn_at (show pr.fns 29 = some c29 from rfl) (by simp)]
    unfold maskE
    by_cases hz : maskA m = 0
    · rw [if_pos hz]
      have hl := l29 m hn (maskA_len hz)
      simp only [maskA] at hz
      by_cases h3 : firstNZ (((m.least.getD []).zip (m.most.getD [])).map pairE) = 0
      · rw [if_pos h3] at hl
        rw [h3]
        simp only [go_sem, c29, I89, I87_3, hz, hl, reduceIte, Nat.reduceEqDiff, Nat.reduceAdd, Nat.reduceSub, Nat.reduceLT, Nat.reduceLeDiff, Nat.reduceMul, Int.reduceLT, Int.reduceLE, Int.reduceEq, Int.reduceNe, Int.reduceAdd, Int.reduceSub, Int.reduceNeg, Int.reduceMul]
        exact ⟨_, rfl⟩
      · rw [if_neg h3] at hl
        simp only [go_sem, c29, I89, I87_3, hz, hl, reduceIte, Nat.reduceEqDiff, Nat.reduceAdd, Nat.reduceSub, Nat.reduceLT, Nat.reduceLeDiff, Nat.reduceMul, Int.reduceLT, Int.reduceLE, Int.reduceEq, Int.reduceNe, Int.reduceAdd, Int.reduceSub, Int.reduceNeg, Int.reduceMul]
        exact ⟨_, rfl⟩
    · rw [if_neg hz]
      simp only [maskA] at hz ⊢
      simp only [go_sem, c29, I89, I87_3, hz, reduceIte, Nat.reduceEqDiff, Nat.reduceAdd, Nat.reduceSub, Nat.reduceLT, Nat.reduceLeDiff, Nat.reduceMul, Int.reduceLT, Int.reduceLE, Int.reduceEq, Int.reduceNe, Int.reduceAdd, Int.reduceSub, Int.reduceNeg, Int.reduceMul]
      exact ⟨_, rfl⟩
  obtain ⟨hh, this⟩ := this
  exact callIso_of rfl this rfl rfl
@[go_sem] theorem fieldAddr_vunit0 {h : Heap} {u : GUnit} : fieldAddrR false 0 1 h (some (.vptr (vunit u))) = some ⟨.vptr (.str u.serial), false, none, h⟩ := rfl
@[go_sem] theorem fieldAddr_vunit1 {h : Heap} {u : GUnit} : fieldAddrR false 1 1 h (some (.vptr (vunit u))) = some ⟨.vptr (sl 1 vint u.values), false, none, h⟩ := by
  show vptrR false h (some (sl 1 vint u.values)) = _
  rw [vptrR_sl]
theorem idx_sl0 {α : Type} {z : Nat} {f : α → AVal} {l : Option (List α)} {k : IntKind} {x : α} {h : Heap} (hx : (l.getD [])[0]? = some x) : idxR z h (some (sl z f l)) (some (.int k 0)) = some ⟨.vptr (f x), false, none, h⟩ := by
  have := idx_sl (z := z) (f := f) (k := k) (h := h) hx
  simpa using this
def lenU (u : GUnit) : Int := ((u.values.getD []).length : Int)
def stepU (n0 : Int) (seen : List (List UInt8)) (u : GUnit) : Int := firstNZ [unitE u, whenE (!decide (lenU u = n0)) 2, whenE (decide (u.serial ∈ seen)) 9]
def firstU (n0 : Int) : List (List UInt8) → List GUnit → Int
  | _, [] => 0
  | seen, u :: l => if stepU n0 seen u = 0 then firstU n0 (seen ++ [u.serial]) l else stepU n0 seen u
def len0 : List GUnit → Int
  | [] => 0
  | u :: _ => lenU u
def unitsE (l : List GUnit) : Int := if l.length ≤ 64 then firstU (len0 l) [] l else 5
theorem runL_units (n0 : Int) : ∀ (l : List GUnit) (i : Nat) (seen : List (List UInt8)), runL (fun _ seen u => if stepU n0 seen u = 0 then .inl (seen ++ [u.serial]) else .inr (stepU n0 seen u)) i seen l = if firstU n0 seen l = 0 then .inl (seen ++ l.map (·.serial)) else .inr (firstU n0 seen l)
  | [], _, seen => by simp [runL, firstU]
  | u :: l, i, seen => by
    simp only [runL, firstU]
    by_cases hz : stepU n0 seen u = 0
    · simp only [hz, if_true]
      rw [runL_units n0 l (i + 1)]
      simp
    · simp only [if_neg hz]
theorem runL_mem {γ : Type} [DecidableEq γ] (s : γ) : ∀ (l : List GUnit) (f : GUnit → γ) (i : Nat), runL (γ := Unit) (δ := Unit) (fun _ _ x => if f x = s then .inr () else .inl ()) i () l = if s ∈ l.map f then .inr () else .inl ()
  | [], _, _ => rfl
  | x :: l, f, i => by
    simp only [runL, List.map_cons, List.mem_cons]
    by_cases hx : f x = s
    · simp [hx]
    · have hx' : ¬ s = f x := fun hh => hx hh.symm
      simp only [if_neg hx, hx', false_or]
      exact runL_mem s l f (i + 1)
theorem l22_1 (o : Option (List GUnit)) (i : Nat) (u : GUnit) (hu : (o.getD [])[i]? = some u) (hn : (o.getD []).length ≤ 1073741824) (h : Heap) :
    X pr (.loop c22_1) ⟨[(0, sl 2 vunit o, false), (3, .int .i64 (i : Int), false), (5, .int .i64 0, false)], h⟩ =
      some (if u.serial ∈ ((o.getD []).take i).map (·.serial) then (.ret, ⟨[(2, .int .i64 9, false)], h⟩) else (.exit 2, ⟨[(0, sl 2 vunit o, false), (3, .int .i64 (i : Int), false), (5, .int .i64 (i : Int), false), (40, .bool false, false)], h⟩)) := by
  have hi : i < (o.getD []).length := (List.getElem?_eq_some_iff.1 hu).1
  have hlen : ((o.getD []).take i).length = i := by rw [List.length_take]; omega
  have := X_loop_list (p := pr) (c := c22_1) ((o.getD []).take i) (fun j (_ : Unit) => ⟨[(0, sl 2 vunit o, false), (3, .int .i64 (i : Int), false), (5, .int .i64 (j : Int), false)], h⟩)
    (fun _ _ x => if x.serial = u.serial then .inr () else .inl ()) (fun _ => (.exit 2, ⟨[(0, sl 2 vunit o, false), (3, .int .i64 (i : Int), false), (5, .int .i64 (i : Int), false), (40, .bool false, false)], h⟩))
    (fun (_ : Unit) => (.ret, ⟨[(2, .int .i64 9, false)], h⟩)) (fun _ _ => True) () (fun _ h => by cases h) (fun _ h => by cases h) ?_ ?_ trivial
  · rw [Int.natCast_zero] at this
    rw [this, runL_mem u.serial _ (·.serial)]
    split <;> rfl
  · intro s _
    have hlt : ¬ ((i : Int) < (i : Int)) := by omega
    simp only [hlen]
    simp only [go_sem, c22_1, hlt, reduceIte, Nat.reduceEqDiff, Nat.reduceAdd, Nat.reduceSub, Nat.reduceLT, Nat.reduceLeDiff, Nat.reduceMul, Int.reduceLT, Int.reduceLE, Int.reduceEq, Int.reduceNe, Int.reduceAdd, Int.reduceSub, Int.reduceNeg, Int.reduceMul]
  · intro j s x hx hj _
    rw [hlen] at hj
    have hx' : (o.getD [])[j]? = some x := by rw [List.getElem?_take_of_lt hj] at hx; exact hx
    have hlt : (j : Int) < (i : Int) := by omega
    have hw := wrap_succ (show j < (o.getD []).length by omega) (by omega)
    unfold stepL
    by_cases hxy : x.serial = u.serial
    · simp only [if_pos hxy]
      have hxy' : (x.serial = u.serial) = True := by simp [hxy]
      simp only [go_sem, c22_1, hlt, idx_sl hx', idx_sl hu, hxy', reduceIte, Nat.reduceEqDiff, Nat.reduceAdd, Nat.reduceSub, Nat.reduceLT, Nat.reduceLeDiff, Nat.reduceMul, Int.reduceLT, Int.reduceLE, Int.reduceEq, Int.reduceNe, Int.reduceAdd, Int.reduceSub, Int.reduceNeg, Int.reduceMul]
    · simp only [if_neg hxy]
      refine ⟨trivial, _, ?_, gc_same (Nat.le_refl _)⟩
      simp only [go_sem, c22_1, hlt, idx_sl hx', idx_sl hu, hxy, hw, reduceIte, Nat.reduceEqDiff, Nat.reduceAdd, Nat.reduceSub, Nat.reduceLT, Nat.reduceLeDiff, Nat.reduceMul, Int.reduceLT, Int.reduceLE, Int.reduceEq, Int.reduceNe, Int.reduceAdd, Int.reduceSub, Int.reduceNeg, Int.reduceMul]
theorem stepU_ref (n0 : Int) (seen : List (List UInt8)) (u : GUnit) : stepU n0 seen u = if firstNZ [unitE u, whenE (!decide (lenU u = n0)) 2] = 0 then (if u.serial ∈ seen then 9 else 0) else firstNZ [unitE u, whenE (!decide (lenU u = n0)) 2] := by
  simp only [stepU, firstNZ, whenE]
  by_cases h1 : unitE u = 0
  · simp only [h1, if_true]
    by_cases h2 : lenU u = n0
    · simp [h2]
    · simp [h2]
  · simp only [if_neg h1]
theorem l22 (o : Option (List GUnit)) (u0 : GUnit) (h0 : (o.getD [])[0]? = some u0) (hn : (o.getD []).length ≤ 1073741824) (hs : ∀ u ∈ o.getD [], sizeU u) (h : Heap) :
    X pr (.loop c22_0) ⟨[(0, sl 2 vunit o, false), (3, .int .i64 0, false)], h⟩ =
      some (if firstU (lenU u0) [] (o.getD []) = 0 then (.exit 0, ⟨[(0, sl 2 vunit o, false), (3, .int .i64 ((o.getD []).length : Int), false), (12, .bool false, false)], h⟩)
        else (.ret, ⟨[(2, .int .i64 (firstU (lenU u0) [] (o.getD [])), false)], h⟩)) := by
  have := X_loop_list (p := pr) (c := c22_0) (o.getD []) (fun i (_ : List (List UInt8)) => ⟨[(0, sl 2 vunit o, false), (3, .int .i64 (i : Int), false)], h⟩)
    (fun _ seen u => if stepU (lenU u0) seen u = 0 then .inl (seen ++ [u.serial]) else .inr (stepU (lenU u0) seen u)) (fun _ => (.exit 0, ⟨[(0, sl 2 vunit o, false), (3, .int .i64 ((o.getD []).length : Int), false), (12, .bool false, false)], h⟩))
    (fun (e : Int) => (.ret, ⟨[(2, .int .i64 e, false)], h⟩)) (fun i s => s = ((o.getD []).take i).map (·.serial)) [] (fun _ h => by cases h) (fun _ h => by cases h) ?_ ?_ rfl
  · rw [Int.natCast_zero] at this
    rw [this, runL_units]
    split <;> rfl
  · intro s _
    have hlt : ¬ (((o.getD []).length : Int) < ((o.getD []).length : Int)) := by omega
    simp only [go_sem, c22_0, hlt, reduceIte, Nat.reduceEqDiff, Nat.reduceAdd, Nat.reduceSub, Nat.reduceLT, Nat.reduceLeDiff, Nat.reduceMul, Int.reduceLT, Int.reduceLE, Int.reduceEq, Int.reduceNe, Int.reduceAdd, Int.reduceSub, Int.reduceNeg, Int.reduceMul]
  · intro i s u hx hi hv
    have hlt : (i : Int) < ((o.getD []).length : Int) := by omega
    have hw := wrap_succ hi (by omega)
    have h95 := I95 u (hs u (List.mem_of_getElem? hx))
    have hin := l22_1 o i u hx hn h
    subst hv
    have hst := stepU_ref (lenU u0) (((o.getD []).take i).map (·.serial)) u
    by_cases hz : firstNZ [unitE u, whenE (!decide (lenU u = lenU u0)) 2] = 0
    · rw [if_pos hz] at hst
      by_cases hm : u.serial ∈ ((o.getD []).take i).map (·.serial)
      · rw [if_pos hm] at hin hst
        refine stepL_out (d := (9 : Int)) (by simp only [hst]; rfl) ?_
        delta lenU at hz
        simp only [go_sem, c22_0, hlt, idx_sl hx, idx_sl0 h0, h95, I96, I94_2, hz, hin, reduceIte, Nat.reduceEqDiff, Nat.reduceAdd, Nat.reduceSub, Nat.reduceLT, Nat.reduceLeDiff, Nat.reduceMul, Int.reduceLT, Int.reduceLE, Int.reduceEq, Int.reduceNe, Int.reduceAdd, Int.reduceSub, Int.reduceNeg, Int.reduceMul]
      · rw [if_neg hm] at hin hst
        refine stepL_in (s' := (((o.getD []).take i).map (·.serial)) ++ [u.serial]) (by simp only [hst, if_true]) ?_ ?_ (gc_same (Nat.le_refl _))
        · rw [List.take_add_one, hx]; simp
        · delta lenU at hz
          simp only [go_sem, c22_0, hlt, idx_sl hx, idx_sl0 h0, h95, I96, I94_2, hz, hin, hw, reduceIte, Nat.reduceEqDiff, Nat.reduceAdd, Nat.reduceSub, Nat.reduceLT, Nat.reduceLeDiff, Nat.reduceMul, Int.reduceLT, Int.reduceLE, Int.reduceEq, Int.reduceNe, Int.reduceAdd, Int.reduceSub, Int.reduceNeg, Int.reduceMul]
    · rw [if_neg hz] at hst
      refine stepL_out (d := firstNZ [unitE u, whenE (!decide (lenU u = lenU u0)) 2]) (by simp only [hst, if_neg hz]) ?_
      delta lenU at hz ⊢
      simp only [go_sem, c22_0, hlt, idx_sl hx, idx_sl0 h0, h95, I96, I94_2, hz, reduceIte, Nat.reduceEqDiff, Nat.reduceAdd, Nat.reduceSub, Nat.reduceLT, Nat.reduceLeDiff, Nat.reduceMul, Int.reduceLT, Int.reduceLE, Int.reduceEq, Int.reduceNe, Int.reduceAdd, Int.reduceSub, Int.reduceNeg, Int.reduceMul]
theorem l22n (h : Heap) (o : Option (List GUnit)) (ho : o.getD [] = []) : X pr (.loop c22_0) ⟨[(0, sl 2 vunit o, false), (3, .int .i64 0, false)], h⟩ = some (.exit 0, ⟨[(0, sl 2 vunit o, false), (3, .int .i64 0, false), (12, .bool false, false)], h⟩) := by
  have hlt : ¬ ((0 : Int) < ((o.getD []).length : Int)) := by rw [ho]; decide
  rw [X_loop']
  simp only [go_sem, c22_0, hlt, reduceIte, Nat.reduceEqDiff, Nat.reduceAdd, Nat.reduceSub, Nat.reduceLT, Nat.reduceLeDiff, Nat.reduceMul, Int.reduceLT, Int.reduceLE, Int.reduceEq, Int.reduceNe, Int.reduceAdd, Int.reduceSub, Int.reduceNeg, Int.reduceMul]
theorem I22 (o : Option (List GUnit)) (hn : (o.getD []).length ≤ 1073741824) (hs : ∀ u ∈ o.getD [], sizeU u) : callIso pr (X pr) 22 [sl 2 vunit o] = some (.int .i64 (unitsE (o.getD [])), false) := by
  have : callFn pr (X pr) 22 [sl 2 vunit o] [] = some (.int .i64 (unitsE (o.getD [])), false, []) := by
    rw [callFn_at (show pr.fns 22 = some c22 from rfl) (by simp)]
    unfold unitsE
    by_cases h64 : (o.getD []).length ≤ 64
    · have h64' : ¬ (64 : Int) < ((o.getD []).length : Int) := by omega
      rw [if_pos h64]
      cases hc : o.getD [] with
      | nil =>
        have hl := l22n [] o hc
        simp only [hc, List.length_nil] at h64'
        simp only [go_sem, c22, hc, h64', hl, firstU, reduceIte, Nat.reduceEqDiff, Nat.reduceAdd, Nat.reduceSub, Nat.reduceLT, Nat.reduceLeDiff, Nat.reduceMul, Int.reduceLT, Int.reduceLE, Int.reduceEq, Int.reduceNe, Int.reduceAdd, Int.reduceSub, Int.reduceNeg, Int.reduceMul]
      | cons u0 l =>
        have hl := l22 o u0 (by rw [hc]; rfl) hn hs []
        rw [← hc, show len0 (o.getD []) = lenU u0 by rw [hc]; rfl]
        by_cases hz : firstU (lenU u0) [] (o.getD []) = 0
        · rw [if_pos hz] at hl
          simp only [go_sem, c22, h64', hl, hz, reduceIte, Nat.reduceEqDiff, Nat.reduceAdd, Nat.reduceSub, Nat.reduceLT, Nat.reduceLeDiff, Nat.reduceMul, Int.reduceLT, Int.reduceLE, Int.reduceEq, Int.reduceNe, Int.reduceAdd, Int.reduceSub, Int.reduceNeg, Int.reduceMul]
        · rw [if_neg hz] at hl
          simp only [go_sem, c22, h64', hl, reduceIte, Nat.reduceEqDiff, Nat.reduceAdd, Nat.reduceSub, Nat.reduceLT, Nat.reduceLeDiff, Nat.reduceMul, Int.reduceLT, Int.reduceLE, Int.reduceEq, Int.reduceNe, Int.reduceAdd, Int.reduceSub, Int.reduceNeg, Int.reduceMul]
    · have h64' : (64 : Int) < ((o.getD []).length : Int) := by omega
      rw [if_neg h64]
      simp only [go_sem, c22, h64', reduceIte, Nat.reduceEqDiff, Nat.reduceAdd, Nat.reduceSub, Nat.reduceLT, Nat.reduceLeDiff, Nat.reduceMul, Int.reduceLT, Int.reduceLE, Int.reduceEq, Int.reduceNe, Int.reduceAdd, Int.reduceSub, Int.reduceNeg, Int.reduceMul]
  exact callIso_of rfl this rfl rfl
end Go.Z
/-
  The reference's CheckUnits, of units of any size: the run.
-/
set_option maxRecDepth 100000
set_option linter.unusedSimpArgs false
namespace Go.Z
open Go Go.Abs
theorem l22w (o : Option (List GUnit)) (u0 : GUnit) (h0 : (o.getD [])[0]? = some u0) (hn : (o.getD []).length ≤ 1073741824) (hs : ∀ u ∈ o.getD [], sizeW u) (h : Heap) :
    X pr (.loop c22_0) ⟨[(0, sl 2 vunit o, false), (3, .int .i64 0, false)], h⟩ =
      some (if firstU (lenU u0) [] (o.getD []) = 0 then (.exit 0, ⟨[(0, sl 2 vunit o, false), (3, .int .i64 ((o.getD []).length : Int), false), (12, .bool false, false)], h⟩)
        else (.ret, ⟨[(2, .int .i64 (firstU (lenU u0) [] (o.getD [])), false)], h⟩)) := by
  have := X_loop_list (p := pr) (c := c22_0) (o.getD []) (fun i (_ : List (List UInt8)) => ⟨[(0, sl 2 vunit o, false), (3, .int .i64 (i : Int), false)], h⟩)
    (fun _ seen u => if stepU (lenU u0) seen u = 0 then .inl (seen ++ [u.serial]) else .inr (stepU (lenU u0) seen u)) (fun _ => (.exit 0, ⟨[(0, sl 2 vunit o, false), (3, .int .i64 ((o.getD []).length : Int), false), (12, .bool false, false)], h⟩))
    (fun (e : Int) => (.ret, ⟨[(2, .int .i64 e, false)], h⟩)) (fun i s => s = ((o.getD []).take i).map (·.serial)) [] (fun _ h => by cases h) (fun _ h => by cases h) ?_ ?_ rfl
  · rw [Int.natCast_zero] at this
    rw [this, runL_units]
    split <;> rfl
  · intro s _
    have hlt : ¬ (((o.getD []).length : Int) < ((o.getD []).length : Int)) := by omega
    simp only [go_sem, c22_0, hlt, reduceIte, Nat.reduceEqDiff, Nat.reduceAdd, Nat.reduceSub, Nat.reduceLT, Nat.reduceLeDiff, Nat.reduceMul, Int.reduceLT, Int.reduceLE, Int.reduceEq, Int.reduceNe, Int.reduceAdd, Int.reduceSub, Int.reduceNeg, Int.reduceMul]
  · intro i s u hx hi hv
    have hlt : (i : Int) < ((o.getD []).length : Int) := by omega
    have hw := wrap_succ hi (by omega)
    have h95 := I95w u (hs u (List.mem_of_getElem? hx))
    have hin := l22_1 o i u hx hn h
    subst hv
    have hst := stepU_ref (lenU u0) (((o.getD []).take i).map (·.serial)) u
    by_cases hz : firstNZ [unitE u, whenE (!decide (lenU u = lenU u0)) 2] = 0
    · rw [if_pos hz] at hst
      by_cases hm : u.serial ∈ ((o.getD []).take i).map (·.serial)
      · rw [if_pos hm] at hin hst
        refine stepL_out (d := (9 : Int)) (by simp only [hst]; rfl) ?_
        delta lenU at hz
        simp only [go_sem, c22_0, hlt, idx_sl hx, idx_sl0 h0, h95, I96, I94_2, hz, hin, reduceIte, Nat.reduceEqDiff, Nat.reduceAdd, Nat.reduceSub, Nat.reduceLT, Nat.reduceLeDiff, Nat.reduceMul, Int.reduceLT, Int.reduceLE, Int.reduceEq, Int.reduceNe, Int.reduceAdd, Int.reduceSub, Int.reduceNeg, Int.reduceMul]
      · rw [if_neg hm] at hin hst
        refine stepL_in (s' := (((o.getD []).take i).map (·.serial)) ++ [u.serial]) (by simp only [hst, if_true]) ?_ ?_ (gc_same (Nat.le_refl _))
        · rw [List.take_add_one, hx]; simp
        · delta lenU at hz
          simp only [go_sem, c22_0, hlt, idx_sl hx, idx_sl0 h0, h95, I96, I94_2, hz, hin, hw, reduceIte, Nat.reduceEqDiff, Nat.reduceAdd, Nat.reduceSub, Nat.reduceLT, Nat.reduceLeDiff, Nat.reduceMul, Int.reduceLT, Int.reduceLE, Int.reduceEq, Int.reduceNe, Int.reduceAdd, Int.reduceSub, Int.reduceNeg, Int.reduceMul]
    · rw [if_neg hz] at hst
      refine stepL_out (d := firstNZ [unitE u, whenE (!decide (lenU u = lenU u0)) 2]) (by simp only [hst, if_neg hz]) ?_
      delta lenU at hz ⊢
      simp only [go_sem, c22_0, hlt, idx_sl hx, idx_sl0 h0, h95, I96, I94_2, hz, reduceIte, Nat.reduceEqDiff, Nat.reduceAdd, Nat.reduceSub, Nat.reduceLT, Nat.reduceLeDiff, Nat.reduceMul, Int.reduceLT, Int.reduceLE, Int.reduceEq, Int.reduceNe, Int.reduceAdd, Int.reduceSub, Int.reduceNeg, Int.reduceMul]
theorem I22w (o : Option (List GUnit)) (hn : (o.getD []).length ≤ 1073741824) (hs : ∀ u ∈ o.getD [], sizeW u) : callIso pr (X pr) 22 [sl 2 vunit o] = some (.int .i64 (unitsE (o.getD [])), false) := by
  have : callFn pr (X pr) 22 [sl 2 vunit o] [] = some (.int .i64 (unitsE (o.getD [])), false, []) := by
    rw [callFn_at (show pr.fns 22 = some c22 from rfl) (by simp)]
    unfold unitsE
    by_cases h64 : (o.getD []).length ≤ 64
    · have h64' : ¬ (64 : Int) < ((o.getD []).length : Int) := by omega
      rw [if_pos h64]
      cases hc : o.getD [] with
      | nil =>
        have hl := l22n [] o hc
        simp only [hc, List.length_nil] at h64'
        simp only [go_sem, c22, hc, h64', hl, firstU, reduceIte, Nat.reduceEqDiff, Nat.reduceAdd, Nat.reduceSub, Nat.reduceLT, Nat.reduceLeDiff, Nat.reduceMul, Int.reduceLT, Int.reduceLE, Int.reduceEq, Int.reduceNe, Int.reduceAdd, Int.reduceSub, Int.reduceNeg, Int.reduceMul]
      | cons u0 l =>
        have hl := l22w o u0 (by rw [hc]; rfl) hn hs []
        rw [← hc, show len0 (o.getD []) = lenU u0 by rw [hc]; rfl]
        by_cases hz : firstU (lenU u0) [] (o.getD []) = 0
        · rw [if_pos hz] at hl
          simp only [go_sem, c22, h64', hl, hz, reduceIte, Nat.reduceEqDiff, Nat.reduceAdd, Nat.reduceSub, Nat.reduceLT, Nat.reduceLeDiff, Nat.reduceMul, Int.reduceLT, Int.reduceLE, Int.reduceEq, Int.reduceNe, Int.reduceAdd, Int.reduceSub, Int.reduceNeg, Int.reduceMul]
        · rw [if_neg hz] at hl
          simp only [go_sem, c22, h64', hl, reduceIte, Nat.reduceEqDiff, Nat.reduceAdd, Nat.reduceSub, Nat.reduceLT, Nat.reduceLeDiff, Nat.reduceMul, Int.reduceLT, Int.reduceLE, Int.reduceEq, Int.reduceNe, Int.reduceAdd, Int.reduceSub, Int.reduceNeg, Int.reduceMul]
    · have h64' : (64 : Int) < ((o.getD []).length : Int) := by omega
      rw [if_neg h64]
      simp only [go_sem, c22, h64', reduceIte, Nat.reduceEqDiff, Nat.reduceAdd, Nat.reduceSub, Nat.reduceLT, Nat.reduceLeDiff, Nat.reduceMul, Int.reduceLT, Int.reduceLE, Int.reduceEq, Int.reduceNe, Int.reduceAdd, Int.reduceSub, Int.reduceNeg, Int.reduceMul]
  exact callIso_of rfl this rfl rfl
end Go.Z
