/-
  Learn, both: their runs.
-/
import Derived.Test.YtbkpojiedkhfkaaGreatL8

set_option linter.unusedVariables false
set_option linter.unusedSimpArgs false

set_option maxRecDepth 100000
set_option linter.unusedSimpArgs false
namespace Go.Z
open Go Go.Abs

def lenN : List GUnit → Nat
  | [] => 0
  | u :: _ => (u.values.getD []).length
def learnE (l : List GUnit) (g : Int) : Int := firstNZ [unitsE l, checkRange g 0 100000, whenE (decide ((l.length : Int) = 0)) 12]
def learnedM (l : List GUnit) (g : Int) : GMask := ⟨nonNil ((List.range (lenN l)).map fun t => loF g (col t l)), nonNil ((List.range (lenN l)).map fun t => hiF g (col t l))⟩
def learnM (l : List GUnit) (g : Int) : GMask := if learnE l g = 0 then learnedM l g else ⟨none, none⟩

theorem stepU_len {n0 : Int} {seen : List (List UInt8)} {u : GUnit} (h : stepU n0 seen u = 0) : lenU u = n0 := by
  by_cases hh : lenU u = n0
  · exact hh
  · exfalso
    revert h
    simp only [stepU, firstNZ, whenE, hh, decide_false, Bool.not_false, if_true]
    split <;> simp_all
theorem firstU_len {n0 : Int} : ∀ {l : List GUnit} {seen : List (List UInt8)}, firstU n0 seen l = 0 → ∀ u ∈ l, lenU u = n0
  | u :: l, seen, h, x, hx => by
    simp only [firstU] at h
    by_cases hz : stepU n0 seen u = 0
    · rw [if_pos hz] at h
      cases hx with
      | head => exact stepU_len hz
      | tail _ hx => exact firstU_len h x hx
    · rw [if_neg hz] at h; exact absurd h hz
theorem learnE_units {l : List GUnit} {g : Int} (h : learnE l g = 0) : unitsE l = 0 := by
  by_cases hh : unitsE l = 0
  · exact hh
  · simp only [learnE, firstNZ, if_neg hh] at h; exact h
theorem learnE_ne {l : List GUnit} {g : Int} (h : learnE l g = 0) : l ≠ [] := by
  intro hh
  rw [hh] at h
  have : learnE [] g ≠ 0 := by
    simp only [learnE, unitsE, firstNZ, firstU, whenE]
    by_cases hc : checkRange g 0 100000 = 0 <;> simp [hc]
  exact this h
theorem units_len {l : List GUnit} (h : unitsE l = 0) : ∀ u ∈ l, (u.values.getD []).length = lenN l := by
  intro u hu
  unfold unitsE at h
  split at h
  · have := firstU_len h u hu
    cases l with
    | nil => cases hu
    | cons a l =>
      simp only [len0, lenU] at this
      simp only [lenN]
      omega
  · cases h
theorem len_first {o : Option (List GUnit)} {u0 : GUnit} (h0 : (o.getD [])[0]? = some u0) : (u0.values.getD []).length = lenN (o.getD []) := by
  cases hc : o.getD [] with
  | nil => rw [hc] at h0; cases h0
  | cons a l => rw [hc] at h0; cases h0; rfl

theorem I17 (o : Option (List GUnit)) (g : Int) (hn : (o.getD []).length ≤ 1073741824) (hs : ∀ u ∈ o.getD [], sizeU u) :
    callIso pr (X pr) 17 [sl 2 vunit o, .int .i64 g] = some (.tup [.agg [sl 1 vint (learnM (o.getD []) g).least, sl 1 vint (learnM (o.getD []) g).most], .int .i64 (learnE (o.getD []) g)], false) := by
  have : ∃ hh, callFn pr (X pr) 17 [sl 2 vunit o, .int .i64 g] [] = some (.tup [.agg [sl 1 vint (learnM (o.getD []) g).least, sl 1 vint (learnM (o.getD []) g).most], .int .i64 (learnE (o.getD []) g)], false, hh) := by
    rw [callFn_at (show pr.fns 17 = some c17 from rfl) (by simp)]
    have h28 := I28 o hn hs
    by_cases hz : learnE (o.getD []) g = 0
    · have hne := learnE_ne hz
      have hlen := units_len (learnE_units hz)
      obtain ⟨u0, h0⟩ : ∃ u0, (o.getD [])[0]? = some u0 := by
        cases hc : o.getD [] with
        | nil => exact absurd hc hne
        | cons a l => exact ⟨a, rfl⟩
      have hu0 := hs u0 (List.mem_of_getElem? h0)
      have hl := l17 o g (u0.values.getD []).length hne hn hu0.2 (fun t ht u hu => by rw [hlen u hu, ← len_first h0]; exact ht)
      have hM : learnM (o.getD []) g = learnedM (o.getD []) g := if_pos hz
      rw [hM, hz]
      simp only [accBox, nn, acc_sl] at hl
      rw [len_first h0] at hl
      have h0n : (((u0.values.getD []).length : Nat) : Int) = ((lenN (o.getD []) : Nat) : Int) := by rw [len_first h0]
      simp only [learnE] at hz
      simp only [go_sem, c17, h28, I88, I89, I87_3, hz, idx_sl0 h0, h0n, hl, learnedM, reduceIte, Nat.reduceEqDiff, Nat.reduceAdd, Nat.reduceSub, Nat.reduceLT, Nat.reduceLeDiff, Nat.reduceMul, Int.reduceLT, Int.reduceLE, Int.reduceEq, Int.reduceNe, Int.reduceAdd, Int.reduceSub, Int.reduceNeg, Int.reduceMul]
      exact ⟨_, rfl⟩
    · have hM : learnM (o.getD []) g = ⟨none, none⟩ := if_neg hz
      rw [hM]
      simp only [learnE] at hz ⊢
      simp only [go_sem, c17, h28, I88, I89, I87_3, hz, reduceIte, Nat.reduceEqDiff, Nat.reduceAdd, Nat.reduceSub, Nat.reduceLT, Nat.reduceLeDiff, Nat.reduceMul, Int.reduceLT, Int.reduceLE, Int.reduceEq, Int.reduceNe, Int.reduceAdd, Int.reduceSub, Int.reduceNeg, Int.reduceMul]
      exact ⟨_, rfl⟩
  obtain ⟨hh, this⟩ := this
  exact callIso_of rfl this (by simp only [go_sem, reduceIte, Nat.reduceEqDiff, Nat.reduceAdd, Nat.reduceSub, Nat.reduceLT, Nat.reduceLeDiff, Nat.reduceMul, Int.reduceLT, Int.reduceLE, Int.reduceEq, Int.reduceNe, Int.reduceAdd, Int.reduceSub, Int.reduceNeg, Int.reduceMul]) (by simp only [go_sem, reduceIte, Nat.reduceEqDiff, Nat.reduceAdd, Nat.reduceSub, Nat.reduceLT, Nat.reduceLeDiff, Nat.reduceMul, Int.reduceLT, Int.reduceLE, Int.reduceEq, Int.reduceNe, Int.reduceAdd, Int.reduceSub, Int.reduceNeg, Int.reduceMul])

/-! ### The reference's -/
theorem fold2 : ∀ (l : List Int) (a b : Int), l.foldl (fun (s : Int × Int) v => (min s.1 v, max s.2 v)) (a, b) = (l.foldl min a, l.foldl max b)
  | [], _, _ => rfl
  | v :: l, a, b => by simp only [List.foldl_cons]; exact fold2 l _ _

theorem l26_1 (o : Option (List GUnit)) (g : Int) (t : Nat) (b1 : ABox) (a b : Int) (hn : (o.getD []).length ≤ 1073741824) (ht : ∀ u ∈ o.getD [], t < (u.values.getD []).length) :
    X pr (.loop c26_1) ⟨[(0, sl 2 vunit o, false), (1, .int .i64 g, false), (4, .ptr 0 0, false), (5, .ptr 1 0, false), (6, .int .i64 (t : Int), false), (7, .int .i64 a, false), (8, .int .i64 b, false), (9, .int .i64 0, false)], [nn, b1]⟩ =
      some (.exit 2, ⟨[(0, sl 2 vunit o, false), (1, .int .i64 g, false), (4, .ptr 0 0, false), (5, .ptr 1 0, false), (6, .int .i64 (t : Int), false), (7, .int .i64 ((col t (o.getD [])).foldl min a), false), (8, .int .i64 ((col t (o.getD [])).foldl max b), false), (9, .int .i64 ((o.getD []).length : Int), false), (36, .bool false, false)], [nn, b1]⟩) := by
  have := X_loop_list (p := pr) (c := c26_1) (δ := Empty) (o.getD []) (fun i (s : Int × Int) => ⟨[(0, sl 2 vunit o, false), (1, .int .i64 g, false), (4, .ptr 0 0, false), (5, .ptr 1 0, false), (6, .int .i64 (t : Int), false), (7, .int .i64 s.1, false), (8, .int .i64 s.2, false), (9, .int .i64 (i : Int), false)], [nn, b1]⟩)
    (fun _ s u => .inl (min s.1 (valU t u), max s.2 (valU t u)))
    (fun s => (.exit 2, ⟨[(0, sl 2 vunit o, false), (1, .int .i64 g, false), (4, .ptr 0 0, false), (5, .ptr 1 0, false), (6, .int .i64 (t : Int), false), (7, .int .i64 s.1, false), (8, .int .i64 s.2, false), (9, .int .i64 ((o.getD []).length : Int), false), (36, .bool false, false)], [nn, b1]⟩))
    (fun d => nomatch d) (fun _ _ => True) (a, b) (fun _ h => by cases h) (fun d => nomatch d) ?_ ?_ trivial
  · rw [Int.natCast_zero, runL_fold (fun (s : Int × Int) u => (min s.1 (valU t u), max s.2 (valU t u)))] at this
    have hf : (o.getD []).foldl (fun (s : Int × Int) u => (min s.1 (valU t u), max s.2 (valU t u))) (a, b) = ((col t (o.getD [])).foldl min a, (col t (o.getD [])).foldl max b) := by
      rw [← fold2, col, List.foldl_map]
    rw [hf] at this
    exact this
  · intro s _
    have hlt : ¬ (((o.getD []).length : Int) < ((o.getD []).length : Int)) := by omega
    simp only [go_sem, c26_1, hlt, reduceIte, Nat.reduceEqDiff, Nat.reduceAdd, Nat.reduceSub, Nat.reduceLT, Nat.reduceLeDiff, Nat.reduceMul, Int.reduceLT, Int.reduceLE, Int.reduceEq, Int.reduceNe, Int.reduceAdd, Int.reduceSub, Int.reduceNeg, Int.reduceMul]
  · intro i s u hx hi _
    have hlt : (i : Int) < ((o.getD []).length : Int) := by omega
    have hw := wrap_succ hi (by omega)
    have hv := fun h : Heap => idx_sl (z := 1) (f := vint) (k := .i64) (h := h) (l := u.values) (valU_get (ht u (List.mem_of_getElem? hx)))
    refine stepL_in rfl trivial ?_ (gc_same (Nat.le_refl _))
    simp only [go_sem, c26_1, hlt, idx_sl hx, hv, hw, reduceIte, Nat.reduceEqDiff, Nat.reduceAdd, Nat.reduceSub, Nat.reduceLT, Nat.reduceLeDiff, Nat.reduceMul, Int.reduceLT, Int.reduceLE, Int.reduceEq, Int.reduceNe, Int.reduceAdd, Int.reduceSub, Int.reduceNeg, Int.reduceMul]

theorem l26 (o : Option (List GUnit)) (g : Int) (u0 : GUnit) (h0 : (o.getD [])[0]? = some u0) (n : Nat) (hn0 : (u0.values.getD []).length = n) (hm : n ≤ 1073741824) (hn : (o.getD []).length ≤ 1073741824) (ht : ∀ t < n, ∀ u ∈ o.getD [], t < (u.values.getD []).length) :
    X pr (.loop c26_0) ⟨[(0, sl 2 vunit o, false), (1, .int .i64 g, false), (4, .ptr 0 0, false), (5, .ptr 1 0, false), (6, .int .i64 0, false)], [nn, nn]⟩ =
      some (.exit 0, ⟨[(0, sl 2 vunit o, false), (1, .int .i64 g, false), (4, .ptr 0 0, false), (5, .ptr 1 0, false), (6, .int .i64 (n : Int), false), (16, .bool false, false)],
        [nn, accBox ((List.range n).map fun t => loF g (col t (o.getD [])), (List.range n).map fun t => hiF g (col t (o.getD [])))]⟩) := by
  have hlen : (List.range n).length = n := List.length_range
  have := X_loop_list (p := pr) (c := c26_0) (δ := Empty) (List.range n) (fun i (s : List Int × List Int) => ⟨[(0, sl 2 vunit o, false), (1, .int .i64 g, false), (4, .ptr 0 0, false), (5, .ptr 1 0, false), (6, .int .i64 (i : Int), false)], [nn, accBox s]⟩)
    (fun _ s t => .inl (s.1 ++ [loF g (col t (o.getD []))], s.2 ++ [hiF g (col t (o.getD []))]))
    (fun s => (.exit 0, ⟨[(0, sl 2 vunit o, false), (1, .int .i64 g, false), (4, .ptr 0 0, false), (5, .ptr 1 0, false), (6, .int .i64 (n : Int), false), (16, .bool false, false)], [nn, accBox s]⟩))
    (fun d => nomatch d) (fun i s => s.1.length = i ∧ s.2.length = i) ([], []) (fun _ h => by cases h) (fun d => nomatch d) ?_ ?_ ⟨rfl, rfl⟩
  · rw [Int.natCast_zero, runL_fold (fun (s : List Int × List Int) t => (s.1 ++ [loF g (col t (o.getD []))], s.2 ++ [hiF g (col t (o.getD []))]))] at this
    have hf : ∀ (l : List Nat) (s : List Int × List Int), l.foldl (fun (s : List Int × List Int) t => (s.1 ++ [loF g (col t (o.getD []))], s.2 ++ [hiF g (col t (o.getD []))])) s = (s.1 ++ l.map (fun t => loF g (col t (o.getD []))), s.2 ++ l.map (fun t => hiF g (col t (o.getD [])))) := by
      intro l
      induction l with
      | nil => intro s; simp
      | cons t l ih => intro s; rw [List.foldl_cons, ih]; simp
    rw [hf] at this
    exact this
  · intro s _
    have hlt : ¬ ((n : Int) < ((u0.values.getD []).length : Int)) := by omega
    simp only [hlen]
    simp only [go_sem, c26_0, idx_sl0 h0, hlt, reduceIte, Nat.reduceEqDiff, Nat.reduceAdd, Nat.reduceSub, Nat.reduceLT, Nat.reduceLeDiff, Nat.reduceMul, Int.reduceLT, Int.reduceLE, Int.reduceEq, Int.reduceNe, Int.reduceAdd, Int.reduceSub, Int.reduceNeg, Int.reduceMul]
  · intro i s t hx hi hs
    rw [hlen] at hi
    have hti : t = i := by
      have := List.getElem?_eq_some_iff.1 hx
      obtain ⟨h1, h2⟩ := this
      simpa using h2.symm
    subst hti
    have hlt : (t : Int) < ((u0.values.getD []).length : Int) := by omega
    have hw := wrap_succ hi (by omega)
    have hv := fun h : Heap => idx_sl (z := 1) (f := vint) (k := .i64) (h := h) (l := u0.values) (valU_get (show t < (u0.values.getD []).length by omega))
    have hin := fun b1 => l26_1 o g t b1 (valU t u0) (valU t u0) hn (ht t hi)
    have hmin : (col t (o.getD [])).foldl min (valU t u0) = minL (col t (o.getD [])) := by
      cases hc : o.getD [] with
      | nil => rw [hc] at h0; cases h0
      | cons a l => rw [hc] at h0; cases h0; simp [col, minL]
    have hmax : (col t (o.getD [])).foldl max (valU t u0) = maxL (col t (o.getD [])) := by
      cases hc : o.getD [] with
      | nil => rw [hc] at h0; cases h0
      | cons a l => rw [hc] at h0; cases h0; simp [col, maxL]
    rw [hmin, hmax] at hin
    obtain ⟨s1, s2⟩ := s
    obtain ⟨hs1, hs2⟩ := hs
    simp only at hs1 hs2
    refine stepL_in (s' := (s1 ++ [loF g (col t (o.getD []))], s2 ++ [hiF g (col t (o.getD []))])) rfl ⟨by simp [hs1], by simp [hs2]⟩ ?_ (gc_same (Nat.le_refl _))
    cases s1 with
    | nil =>
      cases s2 with
      | nil =>
        simp only [nn] at hin
        simp only [go_sem, c26_0, idx_sl0 h0, hlt, hv, hin, hw, accBox, nn, acc_cons, accO_cons, loF, hiF, reduceIte, Nat.reduceEqDiff, Nat.reduceAdd, Nat.reduceSub, Nat.reduceLT, Nat.reduceLeDiff, Nat.reduceMul, Int.reduceLT, Int.reduceLE, Int.reduceEq, Int.reduceNe, Int.reduceAdd, Int.reduceSub, Int.reduceNeg, Int.reduceMul]
        rfl
      | cons b s2 => simp at hs1 hs2; omega
    | cons a s1 =>
      cases s2 with
      | nil => simp at hs1 hs2; omega
      | cons b s2 =>
        have h9 : s1.length ≤ 1073741822 := by simp at hs1; omega
        have h8 : s2.length ≤ 1073741822 := by simp at hs2; omega
        simp only [nn] at hin
        simp only [go_sem, c26_0, idx_sl0 h0, hlt, hv, hin, hw, List.length_map, h9, h8, List.map_append, accBox, nn, acc_cons, accO_cons, loF, hiF, reduceIte, Nat.reduceEqDiff, Nat.reduceAdd, Nat.reduceSub, Nat.reduceLT, Nat.reduceLeDiff, Nat.reduceMul, Int.reduceLT, Int.reduceLE, Int.reduceEq, Int.reduceNe, Int.reduceAdd, Int.reduceSub, Int.reduceNeg, Int.reduceMul]
        rfl

theorem I26 (o : Option (List GUnit)) (g : Int) (hn : (o.getD []).length ≤ 1073741824) (hs : ∀ u ∈ o.getD [], sizeU u) (hz : learnE (o.getD []) g = 0) :
    callIso pr (X pr) 26 [sl 2 vunit o, .int .i64 g] = some (.agg [sl 1 vint (learnedM (o.getD []) g).least, sl 1 vint (learnedM (o.getD []) g).most], false) := by
  have hne := learnE_ne hz
  have hlen := units_len (learnE_units hz)
  obtain ⟨u0, h0⟩ : ∃ u0, (o.getD [])[0]? = some u0 := by
    cases hc : o.getD [] with
    | nil => exact absurd hc hne
    | cons a l => exact ⟨a, rfl⟩
  have hu0 := hs u0 (List.mem_of_getElem? h0)
  have hl := l26 o g u0 h0 (lenN (o.getD [])) (len_first h0) (by rw [← len_first h0]; exact hu0.2) hn (fun t ht u hu => by rw [hlen u hu]; exact ht)
  simp only [accBox, nn, acc_sl] at hl
  have : ∃ hh, callFn pr (X pr) 26 [sl 2 vunit o, .int .i64 g] [] = some (.agg [sl 1 vint (learnedM (o.getD []) g).least, sl 1 vint (learnedM (o.getD []) g).most], false, hh) := by
    rw [callFn_at (show pr.fns 26 = some c26 from rfl) (by simp)]
    simp only [go_sem, c26, hl, learnedM, reduceIte, Nat.reduceEqDiff, Nat.reduceAdd, Nat.reduceSub, Nat.reduceLT, Nat.reduceLeDiff, Nat.reduceMul, Int.reduceLT, Int.reduceLE, Int.reduceEq, Int.reduceNe, Int.reduceAdd, Int.reduceSub, Int.reduceNeg, Int.reduceMul]
    exact ⟨_, rfl⟩
  obtain ⟨hh, this⟩ := this
  exact callIso_of rfl this (by simp only [go_sem, reduceIte, Nat.reduceEqDiff, Nat.reduceAdd, Nat.reduceSub, Nat.reduceLT, Nat.reduceLeDiff, Nat.reduceMul, Int.reduceLT, Int.reduceLE, Int.reduceEq, Int.reduceNe, Int.reduceAdd, Int.reduceSub, Int.reduceNeg, Int.reduceMul]) (by simp only [go_sem, reduceIte, Nat.reduceEqDiff, Nat.reduceAdd, Nat.reduceSub, Nat.reduceLT, Nat.reduceLeDiff, Nat.reduceMul, Int.reduceLT, Int.reduceLE, Int.reduceEq, Int.reduceNe, Int.reduceAdd, Int.reduceSub, Int.reduceNeg, Int.reduceMul])

end Go.Z
