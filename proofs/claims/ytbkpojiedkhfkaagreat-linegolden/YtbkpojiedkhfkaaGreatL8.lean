/-
  Learn: its run.
-/
import Derived.Test.YtbkpojiedkhfkaaGreatL7
set_option linter.unusedVariables false
set_option linter.unusedSimpArgs false
set_option maxRecDepth 100000
set_option linter.unusedSimpArgs false
namespace Go.Z
open Go Go.Abs
theorem runL_fold {α γ δ : Type} (f : γ → α → γ) : ∀ (l : List α) (i : Nat) (s : γ), runL (δ := δ) (fun _ s x => .inl (f s x)) i s l = .inl (l.foldl f s)
  | [], _, _ => rfl
  | x :: l, i, s => by simp only [runL, List.foldl_cons]; exact runL_fold f l (i + 1) (f s x)
def minL : List Int → Int
  | [] => 0
  | x :: l => l.foldl min x
def maxL : List Int → Int
  | [] => 0
  | x :: l => l.foldl max x
theorem I92 (l : List Int) (x : Int) (hn : (x :: l).length ≤ 1073741824) : callIso pr (X pr) 92 [.list false 1 ((x :: l).map vint)] = some (.int .i64 (minL (x :: l)), false) := by
  have hn' : ((some (x :: l)).getD []).length ≤ 1073741824 := hn
  have hl := X_loop_inv (p := pr) (c := c92_0) (δ := Empty) (x :: l) (fun i (s : Int) => ⟨[(0, sl 1 vint (some (x :: l)), false), (3, .int .i64 s, false), (4, .int .i64 (i : Int), false)], []⟩)
    (fun _ s y => .inl (min s y)) (fun s => (.exit 0, ⟨[(0, sl 1 vint (some (x :: l)), false), (3, .int .i64 s, false), (4, .int .i64 ((x :: l).length : Int), false), (15, .bool false, false)], []⟩)) (fun d => nomatch d) (fun _ _ => True)
    (fun _ h => by cases h) (fun d => nomatch d) ?_ ?_ l.length 1 x (by simp; omega) trivial
  · have : callFn pr (X pr) 92 [sl 1 vint (some (x :: l))] [] = some (.int .i64 (minL (x :: l)), false, []) := by
      rw [callFn_at (show pr.fns 92 = some c92 from rfl) (by simp)]
      rw [runL_fold] at hl
      simp only [outL_inl, List.drop_succ_cons, List.drop_zero, Int.natCast_one] at hl
      have h1 : ¬ ((((some (x :: l)).getD []).length : Int) < 1) := by simp; omega
      have h0 : ((some (x :: l)).getD [])[0]? = some x := rfl
      simp only [go_sem, c92, h1, idx_sl0 h0, hl, minL, reduceIte, Nat.reduceEqDiff, Nat.reduceAdd, Nat.reduceSub, Nat.reduceLT, Nat.reduceLeDiff, Nat.reduceMul, Int.reduceLT, Int.reduceLE, Int.reduceEq, Int.reduceNe, Int.reduceAdd, Int.reduceSub, Int.reduceNeg, Int.reduceMul]
    exact callIso_of rfl this rfl rfl
  · intro s _
    have hlt : ¬ (((l.length + 1 : Nat) : Int) < ((l.length + 1 : Nat) : Int)) := by omega
    simp only [go_sem, c92_0, Option.getD_some, hlt, reduceIte, Nat.reduceEqDiff, Nat.reduceAdd, Nat.reduceSub, Nat.reduceLT, Nat.reduceLeDiff, Nat.reduceMul, Int.reduceLT, Int.reduceLE, Int.reduceEq, Int.reduceNe, Int.reduceAdd, Int.reduceSub, Int.reduceNeg, Int.reduceMul]
  · intro i s y hy hi _
    have hy' : ((some (x :: l)).getD [])[i]? = some y := hy
    have hlt : (i : Int) < (((some (x :: l)).getD []).length : Int) := by show (i : Int) < ((x :: l).length : Int); omega
    have hw := wrap_succ hi (by omega)
    refine stepL_in rfl trivial ?_ (gc_same (Nat.le_refl _))
    simp only [go_sem, c92_0, hlt, idx_sl hy', hw, reduceIte, Nat.reduceEqDiff, Nat.reduceAdd, Nat.reduceSub, Nat.reduceLT, Nat.reduceLeDiff, Nat.reduceMul, Int.reduceLT, Int.reduceLE, Int.reduceEq, Int.reduceNe, Int.reduceAdd, Int.reduceSub, Int.reduceNeg, Int.reduceMul]
theorem I93 (l : List Int) (x : Int) (hn : (x :: l).length ≤ 1073741824) : callIso pr (X pr) 93 [.list false 1 ((x :: l).map vint)] = some (.int .i64 (maxL (x :: l)), false) := by
  have hn' : ((some (x :: l)).getD []).length ≤ 1073741824 := hn
  have hl := X_loop_inv (p := pr) (c := c93_0) (δ := Empty) (x :: l) (fun i (s : Int) => ⟨[(0, sl 1 vint (some (x :: l)), false), (3, .int .i64 s, false), (4, .int .i64 (i : Int), false)], []⟩)
    (fun _ s y => .inl (max s y)) (fun s => (.exit 0, ⟨[(0, sl 1 vint (some (x :: l)), false), (3, .int .i64 s, false), (4, .int .i64 ((x :: l).length : Int), false), (15, .bool false, false)], []⟩)) (fun d => nomatch d) (fun _ _ => True)
    (fun _ h => by cases h) (fun d => nomatch d) ?_ ?_ l.length 1 x (by simp; omega) trivial
  · have : callFn pr (X pr) 93 [sl 1 vint (some (x :: l))] [] = some (.int .i64 (maxL (x :: l)), false, []) := by
      rw [callFn_at (show pr.fns 93 = some c93 from rfl) (by simp)]
      rw [runL_fold] at hl
      simp only [outL_inl, List.drop_succ_cons, List.drop_zero, Int.natCast_one] at hl
      have h1 : ¬ ((((some (x :: l)).getD []).length : Int) < 1) := by simp; omega
      have h0 : ((some (x :: l)).getD [])[0]? = some x := rfl
      simp only [go_sem, c93, h1, idx_sl0 h0, hl, maxL, reduceIte, Nat.reduceEqDiff, Nat.reduceAdd, Nat.reduceSub, Nat.reduceLT, Nat.reduceLeDiff, Nat.reduceMul, Int.reduceLT, Int.reduceLE, Int.reduceEq, Int.reduceNe, Int.reduceAdd, Int.reduceSub, Int.reduceNeg, Int.reduceMul]
    exact callIso_of rfl this rfl rfl
  · intro s _
    have hlt : ¬ (((l.length + 1 : Nat) : Int) < ((l.length + 1 : Nat) : Int)) := by omega
    simp only [go_sem, c93_0, Option.getD_some, hlt, reduceIte, Nat.reduceEqDiff, Nat.reduceAdd, Nat.reduceSub, Nat.reduceLT, Nat.reduceLeDiff, Nat.reduceMul, Int.reduceLT, Int.reduceLE, Int.reduceEq, Int.reduceNe, Int.reduceAdd, Int.reduceSub, Int.reduceNeg, Int.reduceMul]
  · intro i s y hy hi _
    have hy' : ((some (x :: l)).getD [])[i]? = some y := hy
    have hlt : (i : Int) < (((some (x :: l)).getD []).length : Int) := by show (i : Int) < ((x :: l).length : Int); omega
    have hw := wrap_succ hi (by omega)
    refine stepL_in rfl trivial ?_ (gc_same (Nat.le_refl _))
    simp only [go_sem, c93_0, hlt, idx_sl hy', hw, reduceIte, Nat.reduceEqDiff, Nat.reduceAdd, Nat.reduceSub, Nat.reduceLT, Nat.reduceLeDiff, Nat.reduceMul, Int.reduceLT, Int.reduceLE, Int.reduceEq, Int.reduceNe, Int.reduceAdd, Int.reduceSub, Int.reduceNeg, Int.reduceMul]
def valU (t : Nat) (u : GUnit) : Int := (u.values.getD []).getD t 0
def col (t : Nat) (l : List GUnit) : List Int := l.map (valU t)
theorem valU_get {t : Nat} {u : GUnit} (h : t < (u.values.getD []).length) : (u.values.getD [])[t]? = some (valU t u) := by
  simp [valU, List.getD_eq_getElem?_getD, List.getElem?_eq_getElem h]
@[go_sem] theorem afterS {n : Nat} {v : AVal} {h : Heap} : afterShared n v h = bif Nat.ble h.length n then h else bif below n v && belowHeap n (h.take n) then h.take n else h := rfl
@[go_sem] theorem belowHeap_nil {n : Nat} : belowHeap n [] = true := rfl
@[go_sem] theorem belowHeap_cons {n : Nat} {b : ABox} {h : Heap} : belowHeap n (b :: h) = (belowBox n b && belowHeap n h) := rfl
@[go_sem] theorem belowBox_cells {n : Nat} {cs : List (AVal × Bool)} : belowBox n (.cells cs) = belowCells n cs := rfl
@[go_sem] theorem belowCells_nil {n : Nat} : belowCells n [] = true := rfl
@[go_sem] theorem belowCells_cons {n : Nat} {v : AVal} {o : Bool} {cs : List (AVal × Bool)} : belowCells n ((v, o) :: cs) = (below n v && belowCells n cs) := rfl
@[go_sem] theorem below_accI {n : Nat} {l : List Int} : below n (acc 1 vint l) = true := below_acc (fun _ => rfl) l
theorem F91 (b0 b1 b3 : ABox) (t : Nat) (u : GUnit) (ht : t < (u.values.getD []).length) :
    callFn pr (X pr) 91 [.agg [.str u.serial, sl 1 vint u.values], .ptr 2 0] [b0, b1, .cells [(.int .i64 (t : Int), false)], b3] = some (.int .i64 (valU t u), false, [b0, b1, .cells [(.int .i64 (t : Int), false)], b3, .cells [(.str u.serial, false), (sl 1 vint u.values, false)]]) := by
  rw [callFn_at (show pr.fns 91 = some c91 from rfl) (by simp)]
  simp only [go_sem, c91, idx_sl (valU_get ht), reduceIte, Nat.reduceEqDiff, Nat.reduceAdd, Nat.reduceSub, Nat.reduceLT, Nat.reduceLeDiff, Nat.reduceMul, Int.reduceLT, Int.reduceLE, Int.reduceEq, Int.reduceNe, Int.reduceAdd, Int.reduceSub, Int.reduceNeg, Int.reduceMul]
theorem l90 (b0 b1 : ABox) (hb0 : ∀ n, belowBox n b0 = true) (hb1 : ∀ n, belowBox n b1 = true) (t : Nat) (o : Option (List GUnit)) (hn : (o.getD []).length ≤ 1073741824) (ht : ∀ u ∈ o.getD [], t < (u.values.getD []).length) :
    X pr (.loop c90_0) ⟨[(1, .fn (.func 91) [] [.ptr 2 0], false), (5, .list true 0 [], false), (8, sl 2 vunit o, false), (9, .int .i64 ((o.getD []).length : Int), false), (10, .int .i64 0, false)], [b0, b1, .cells [(.int .i64 (t : Int), false)]]⟩ =
      some (.exit 0, ⟨[(1, .fn (.func 91) [] [.ptr 2 0], false), (5, acc 1 vint (col t (o.getD [])), accO (o.getD [])), (8, sl 2 vunit o, false), (9, .int .i64 ((o.getD []).length : Int), false), (10, .int .i64 ((o.getD []).length : Int), false), (11, .bool false, false)], [b0, b1, .cells [(.int .i64 (t : Int), false)]]⟩) := by
  have := X_loop_list (p := pr) (c := c90_0) (δ := Empty) (o.getD []) (fun i (s : List Int) => ⟨[(1, .fn (.func 91) [] [.ptr 2 0], false), (5, acc 1 vint s, accO s), (8, sl 2 vunit o, false), (9, .int .i64 ((o.getD []).length : Int), false), (10, .int .i64 (i : Int), false)], [b0, b1, .cells [(.int .i64 (t : Int), false)]]⟩)
    (fun _ s u => .inl (s ++ [valU t u])) (fun s => (.exit 0, ⟨[(1, .fn (.func 91) [] [.ptr 2 0], false), (5, acc 1 vint s, accO s), (8, sl 2 vunit o, false), (9, .int .i64 ((o.getD []).length : Int), false), (10, .int .i64 ((o.getD []).length : Int), false), (11, .bool false, false)], [b0, b1, .cells [(.int .i64 (t : Int), false)]]⟩))
    (fun d => nomatch d) (fun i s => s.length = i) [] (fun _ h => by cases h) (fun d => nomatch d) ?_ ?_ rfl
  · rw [Int.natCast_zero, runL_map] at this
    rw [outL_inl, List.nil_append, accO_map] at this
    exact this
  · intro s _
    have hlt : ¬ (((o.getD []).length : Int) < ((o.getD []).length : Int)) := by omega
    simp only [go_sem, c90_0, hlt, reduceIte, Nat.reduceEqDiff, Nat.reduceAdd, Nat.reduceSub, Nat.reduceLT, Nat.reduceLeDiff, Nat.reduceMul, Int.reduceLT, Int.reduceLE, Int.reduceEq, Int.reduceNe, Int.reduceAdd, Int.reduceSub, Int.reduceNeg, Int.reduceMul]
  · intro i s u hx hi hs
    have hlt : (i : Int) < ((o.getD []).length : Int) := by omega
    have hw := wrap_succ hi (by omega)
    have h91 := fun b3 => F91 b0 b1 b3 t u (ht u (List.mem_of_getElem? hx))
    refine stepL_in (s' := s ++ [valU t u]) (st' := ⟨[(1, .fn (.func 91) [] [.ptr 2 0], false), (5, acc 1 vint (s ++ [valU t u]), accO (s ++ [valU t u])), (8, sl 2 vunit o, false), (9, .int .i64 ((o.getD []).length : Int), false), (10, .int .i64 ((i + 1 : Nat) : Int), false)], [b0, b1, .cells [(.int .i64 (t : Int), false)]] ++ [.cells [(.str u.serial, false), (sl 1 vint u.values, false)]]⟩) rfl (by simp [hs]) ?_ (gc_over rfl rfl ?_ ?_)
    · cases s with
      | nil =>
        simp only [go_sem, c90_0, hlt, idx_sl hx, h91, hw, acc, accO, hb0, hb1, reduceIte, Nat.reduceEqDiff, Nat.reduceAdd, Nat.reduceSub, Nat.reduceLT, Nat.reduceLeDiff, Nat.reduceMul, Int.reduceLT, Int.reduceLE, Int.reduceEq, Int.reduceNe, Int.reduceAdd, Int.reduceSub, Int.reduceNeg, Int.reduceMul]
        rfl
      | cons a s =>
        have h9 : s.length ≤ 1073741822 := by simp at hs; omega
        simp only [go_sem, c90_0, hlt, idx_sl hx, h91, hw, acc, accO, List.length_map, h9, List.map_append, hb0, hb1, reduceIte, Nat.reduceEqDiff, Nat.reduceAdd, Nat.reduceSub, Nat.reduceLT, Nat.reduceLeDiff, Nat.reduceMul, Int.reduceLT, Int.reduceLE, Int.reduceEq, Int.reduceNe, Int.reduceAdd, Int.reduceSub, Int.reduceNeg, Int.reduceMul]
        rfl
    · simp only [go_sem, reduceIte, Nat.reduceEqDiff, Nat.reduceAdd, Nat.reduceSub, Nat.reduceLT, Nat.reduceLeDiff, Nat.reduceMul, Int.reduceLT, Int.reduceLE, Int.reduceEq, Int.reduceNe, Int.reduceAdd, Int.reduceSub, Int.reduceNeg, Int.reduceMul]
    · simp only [go_sem, hb0, hb1, reduceIte, Nat.reduceEqDiff, Nat.reduceAdd, Nat.reduceSub, Nat.reduceLT, Nat.reduceLeDiff, Nat.reduceMul, Int.reduceLT, Int.reduceLE, Int.reduceEq, Int.reduceNe, Int.reduceAdd, Int.reduceSub, Int.reduceNeg, Int.reduceMul]
theorem F90 (b0 b1 : ABox) (hb0 : ∀ n, belowBox n b0 = true) (hb1 : ∀ n, belowBox n b1 = true) (t : Nat) (o : Option (List GUnit)) (hn : (o.getD []).length ≤ 1073741824) (ht : ∀ u ∈ o.getD [], t < (u.values.getD []).length) :
    callFn pr (X pr) 90 [sl 2 vunit o, .fn (.func 91) [] [.ptr 2 0]] [b0, b1, .cells [(.int .i64 (t : Int), false)]] = some (acc 1 vint (col t (o.getD [])), accO (o.getD []), [b0, b1, .cells [(.int .i64 (t : Int), false)]]) := by
  rw [callFn_at (show pr.fns 90 = some c90 from rfl) (by simp)]
  simp only [go_sem, c90, l90 b0 b1 hb0 hb1 t o hn ht, reduceIte, Nat.reduceEqDiff, Nat.reduceAdd, Nat.reduceSub, Nat.reduceLT, Nat.reduceLeDiff, Nat.reduceMul, Int.reduceLT, Int.reduceLE, Int.reduceEq, Int.reduceNe, Int.reduceAdd, Int.reduceSub, Int.reduceNeg, Int.reduceMul]
theorem acc_cons {α : Type} {z : Nat} {f : α → AVal} {a : α} {l : List α} : acc z f (a :: l) = .list false z (f a :: l.map f) := rfl
theorem accO_cons {α : Type} {a : α} {l : List α} : accO (a :: l) = true := rfl
theorem I92a (c : List Int) (hc : c ≠ []) (hn : c.length ≤ 1073741824) : callIso pr (X pr) 92 [acc 1 vint c] = some (.int .i64 (minL c), false) := by
  cases c with
  | nil => exact absurd rfl hc
  | cons x l => exact I92 l x hn
theorem I93a (c : List Int) (hc : c ≠ []) (hn : c.length ≤ 1073741824) : callIso pr (X pr) 93 [acc 1 vint c] = some (.int .i64 (maxL c), false) := by
  cases c with
  | nil => exact absurd rfl hc
  | cons x l => exact I93 l x hn
def loF (g : Int) (c : List Int) : Int := max (-100000) (wrapF .i64 (minL c - g))
def hiF (g : Int) (c : List Int) : Int := min 100000 (wrapF .i64 (maxL c + g))
abbrev nn : ABox := .cells [(.list true 0 [], false), (.list true 0 [], false)]
abbrev accBox (s : List Int × List Int) : ABox := .cells [(acc 1 vint s.1, accO s.1), (acc 1 vint s.2, accO s.2)]
theorem l17 (o : Option (List GUnit)) (g : Int) (n : Nat) (hne : o.getD [] ≠ []) (hn : (o.getD []).length ≤ 1073741824) (hm : n ≤ 1073741824) (ht : ∀ t < n, ∀ u ∈ o.getD [], t < (u.values.getD []).length) :
    X pr (.loop c17_0) ⟨[(0, sl 2 vunit o, false), (1, .int .i64 g, false), (4, .ptr 0 0, false), (7, .ptr 1 0, false), (28, .int .i64 (n : Int), false), (29, .int .i64 0, false)], [nn, nn]⟩ =
      some (.exit 0, ⟨[(0, sl 2 vunit o, false), (1, .int .i64 g, false), (4, .ptr 0 0, false), (7, .ptr 1 0, false), (28, .int .i64 (n : Int), false), (29, .int .i64 (n : Int), false), (30, .bool false, false)],
        [nn, accBox ((List.range n).map fun t => loF g (col t (o.getD [])), (List.range n).map fun t => hiF g (col t (o.getD [])))]⟩) := by
  have hlen : (List.range n).length = n := List.length_range
  have := X_loop_list (p := pr) (c := c17_0) (δ := Empty) (List.range n) (fun i (s : List Int × List Int) => ⟨[(0, sl 2 vunit o, false), (1, .int .i64 g, false), (4, .ptr 0 0, false), (7, .ptr 1 0, false), (28, .int .i64 (n : Int), false), (29, .int .i64 (i : Int), false)], [nn, accBox s]⟩)
    (fun _ s t => .inl (s.1 ++ [loF g (col t (o.getD []))], s.2 ++ [hiF g (col t (o.getD []))]))
    (fun s => (.exit 0, ⟨[(0, sl 2 vunit o, false), (1, .int .i64 g, false), (4, .ptr 0 0, false), (7, .ptr 1 0, false), (28, .int .i64 (n : Int), false), (29, .int .i64 (n : Int), false), (30, .bool false, false)], [nn, accBox s]⟩))
    (fun d => nomatch d) (fun i s => s.1.length = i ∧ s.2.length = i) ([], []) (fun _ h => by cases h) (fun d => nomatch d) ?_ ?_ ⟨rfl, rfl⟩
  · rw [Int.natCast_zero, runL_fold (fun (s : List Int × List Int) t => (s.1 ++ [loF g (col t (o.getD []))], s.2 ++ [hiF g (col t (o.getD []))]))] at this
    have hf : ∀ (l : List Nat) (s : List Int × List Int), l.foldl (fun (s : List Int × List Int) t => (s.1 ++ [loF g (col t (o.getD []))], s.2 ++ [hiF g (col t (o.getD []))])) s = (s.1 ++ l.map (fun t => loF g (col t (o.getD []))), s.2 ++ l.map (fun t => hiF g (col t (o.getD [])))) := by
      intro l
      induction l with
      | nil => intro s; simp
      | cons t l ih => intro s; rw [List.foldl_cons, ih]; simp
    rw [hf] at this
    exact this
  · intro s _
    have hlt : ¬ ((n : Int) < (n : Int)) := by omega
    simp only [hlen]
    simp only [go_sem, c17_0, hlt, reduceIte, Nat.reduceEqDiff, Nat.reduceAdd, Nat.reduceSub, Nat.reduceLT, Nat.reduceLeDiff, Nat.reduceMul, Int.reduceLT, Int.reduceLE, Int.reduceEq, Int.reduceNe, Int.reduceAdd, Int.reduceSub, Int.reduceNeg, Int.reduceMul]
  · intro i s t hx hi hs
    rw [hlen] at hi
    have hti : t = i := by
      have := List.getElem?_eq_some_iff.1 hx
      obtain ⟨h1, h2⟩ := this
      simpa using h2.symm
    subst hti
    have hlt : (t : Int) < (n : Int) := by omega
    have hw := wrap_succ hi (by omega)
    have hcn : col t (o.getD []) ≠ [] := by simp [col, hne]
    have hcl : (col t (o.getD [])).length ≤ 1073741824 := by simpa [col] using hn
    have h92 := I92a _ hcn hcl
    have h93 := I93a _ hcn hcl
    have h90 := F90 nn (accBox s) (fun n => by simp only [go_sem, reduceIte, Nat.reduceEqDiff, Nat.reduceAdd, Nat.reduceSub, Nat.reduceLT, Nat.reduceLeDiff, Nat.reduceMul, Int.reduceLT, Int.reduceLE, Int.reduceEq, Int.reduceNe, Int.reduceAdd, Int.reduceSub, Int.reduceNeg, Int.reduceMul]) (fun n => by simp only [go_sem, reduceIte, Nat.reduceEqDiff, Nat.reduceAdd, Nat.reduceSub, Nat.reduceLT, Nat.reduceLeDiff, Nat.reduceMul, Int.reduceLT, Int.reduceLE, Int.reduceEq, Int.reduceNe, Int.reduceAdd, Int.reduceSub, Int.reduceNeg, Int.reduceMul]) t o hn (ht t hi)
    obtain ⟨s1, s2⟩ := s
    obtain ⟨hs1, hs2⟩ := hs
    simp only at hs1 hs2
    refine stepL_in (s' := (s1 ++ [loF g (col t (o.getD []))], s2 ++ [hiF g (col t (o.getD []))])) (st' := ⟨[(0, sl 2 vunit o, false), (1, .int .i64 g, false), (4, .ptr 0 0, false), (7, .ptr 1 0, false), (28, .int .i64 (n : Int), false), (29, .int .i64 ((t + 1 : Nat) : Int), false)], [nn, accBox (s1 ++ [loF g (col t (o.getD []))], s2 ++ [hiF g (col t (o.getD []))])] ++ [.cells [(.int .i64 (t : Int), false)]]⟩) rfl ⟨by simp [hs1], by simp [hs2]⟩ ?_ (gc_over rfl rfl ?_ ?_)
    · cases s1 with
      | nil =>
        cases s2 with
        | nil =>
          simp only [accBox, nn, acc_nil, accO_nil] at h90
          simp only [go_sem, c17_0, hlt, h90, h92, h93, hw, accBox, nn, acc_cons, accO_cons, loF, hiF, reduceIte, Nat.reduceEqDiff, Nat.reduceAdd, Nat.reduceSub, Nat.reduceLT, Nat.reduceLeDiff, Nat.reduceMul, Int.reduceLT, Int.reduceLE, Int.reduceEq, Int.reduceNe, Int.reduceAdd, Int.reduceSub, Int.reduceNeg, Int.reduceMul]
          rfl
        | cons b s2 => simp at hs1 hs2; omega
      | cons a s1 =>
        cases s2 with
        | nil => simp at hs1 hs2; omega
        | cons b s2 =>
          have h9 : s1.length ≤ 1073741822 := by simp at hs1; omega
          have h8 : s2.length ≤ 1073741822 := by simp at hs2; omega
          simp only [accBox, nn, acc_cons, accO_cons] at h90
          simp only [go_sem, c17_0, hlt, h90, h92, h93, hw, List.length_map, h9, h8, List.map_append, accBox, nn, acc_cons, accO_cons, loF, hiF, reduceIte, Nat.reduceEqDiff, Nat.reduceAdd, Nat.reduceSub, Nat.reduceLT, Nat.reduceLeDiff, Nat.reduceMul, Int.reduceLT, Int.reduceLE, Int.reduceEq, Int.reduceNe, Int.reduceAdd, Int.reduceSub, Int.reduceNeg, Int.reduceMul]
          rfl
    · simp only [go_sem, reduceIte, Nat.reduceEqDiff, Nat.reduceAdd, Nat.reduceSub, Nat.reduceLT, Nat.reduceLeDiff, Nat.reduceMul, Int.reduceLT, Int.reduceLE, Int.reduceEq, Int.reduceNe, Int.reduceAdd, Int.reduceSub, Int.reduceNeg, Int.reduceMul]
    · simp only [go_sem, reduceIte, Nat.reduceEqDiff, Nat.reduceAdd, Nat.reduceSub, Nat.reduceLT, Nat.reduceLeDiff, Nat.reduceMul, Int.reduceLT, Int.reduceLE, Int.reduceEq, Int.reduceNe, Int.reduceAdd, Int.reduceSub, Int.reduceNeg, Int.reduceMul]
end Go.Z
