/-
  The product's Narrow: its run.
-/
import Derived.Test.YtbkpojiedkhfkaaGreatL10
set_option linter.unusedVariables false
set_option linter.unusedSimpArgs false
set_option maxRecDepth 100000
set_option linter.unusedSimpArgs false
namespace Go.Z
open Go Go.Abs
def mixL (f : Int → Int) (l : List Int) (i : Nat) : List Int := (l.take i).map f ++ l.drop i
theorem mix_len {f : Int → Int} {l : List Int} {i : Nat} : (mixL f l i).length = l.length := by
  simp only [mixL, List.length_append, List.length_map, List.length_take, List.length_drop]; omega
theorem mix_at {f : Int → Int} {l : List Int} {i : Nat} {x : Int} (hx : l[i]? = some x) : (mixL f l i)[i]? = some x := by
  obtain ⟨h1, h2⟩ := List.getElem?_eq_some_iff.1 hx
  have hl : ((l.take i).map f).length = i := by simp; omega
  unfold mixL
  rw [List.getElem?_append_right (by omega), hl, Nat.sub_self, List.getElem?_drop, Nat.add_zero]
  exact hx
theorem mix_set {f : Int → Int} {l : List Int} {i : Nat} {x : Int} (hx : l[i]? = some x) : (mixL f l i).set i (f x) = mixL f l (i + 1) := by
  obtain ⟨h1, h2⟩ := List.getElem?_eq_some_iff.1 hx
  have hl : ((l.take i).map f).length = i := by simp; omega
  unfold mixL
  rw [List.set_append_right _ _ (by omega), hl, Nat.sub_self, List.drop_eq_getElem_cons h1, List.set_cons_zero, List.take_add_one, hx]
  simp
theorem mix_zero {f : Int → Int} {l : List Int} : mixL f l 0 = l := by simp [mixL]
theorem mix_all {f : Int → Int} {l : List Int} {n : Nat} (h : l.length = n) : mixL f l n = l.map f := by
  unfold mixL; rw [List.take_of_length_le (by omega), List.drop_eq_nil_of_le (by omega), List.append_nil]
theorem mix_next {f : Int → Int} {l : List Int} {i : Nat} {x : Int} (hx : l[i]? = some x) : (mixL f l (i + 1))[i]? = some (f x) := by
  rw [← mix_set hx]
  have h1 := (List.getElem?_eq_some_iff.1 hx).1
  rw [List.getElem?_set_self (by rw [mix_len]; exact h1)]
theorem runL_any (q : Int × Int → Bool) : ∀ (l : List (Int × Int)) (i : Nat),
    (l.any q = false → runL (γ := Unit) (δ := Nat) (fun i _ xy => if q xy = true then .inr i else .inl ()) i () l = .inl ()) ∧
    (l.any q = true → ∃ j, runL (γ := Unit) (δ := Nat) (fun i _ xy => if q xy = true then .inr i else .inl ()) i () l = .inr j)
  | [], _ => ⟨fun _ => rfl, fun h => by cases h⟩
  | xy :: l, i => by
    simp only [runL, List.any_cons]
    by_cases hb : q xy = true
    · simp only [hb, if_true, Bool.true_or]
      exact ⟨fun h => (by cases h), fun _ => ⟨i, rfl⟩⟩
    · have hb' : q xy = false := by simpa using hb
      simp only [if_neg hb]
      rw [hb', Bool.false_or]
      exact runL_any q l (i + 1)
abbrev msBox (n : Nat) : ABox := .cells [(.ms 2 0 n, false), (.ms 3 0 n, false)]
theorem b19 (m : GMask) (g : Int) (a b : List Int) (n i : Nat) (x y : Int) (ha : a.length = n) (hb : b.length = n) (hi : i < n) (hn : n ≤ 1073741824) (hx : a[i]? = some x) (hy : b[i]? = some y) :
    X pr c19_0 ⟨[(1, .int .i64 g, false), (4, .ptr 1 0, false), (7, .ptr 4 0, false), (40, .int .i64 (n : Int), false), (41, .int .i64 (i : Int), false)], [mBox m, nn, .cells (ic a), .cells (ic b), msBox n]⟩ =
      some (if nHi g y < nLo g x then (.ret, ⟨[(4, .ptr 1 0, false), (5, .int .i64 24, false)], [mBox m, nn, .cells (ic (a.set i (nLo g x))), .cells (ic (b.set i (nHi g y))), msBox n]⟩)
        else (.normal, ⟨[(1, .int .i64 g, false), (4, .ptr 1 0, false), (7, .ptr 4 0, false), (40, .int .i64 (n : Int), false), (41, .int .i64 ((i + 1 : Nat) : Int), false)], [mBox m, nn, .cells (ic (a.set i (nLo g x))), .cells (ic (b.set i (nHi g y))), msBox n]⟩)) := by
  have hlt : (i : Int) < (n : Int) := by omega
  have hw := wrap_succ hi (by omega)
  have hix := fun b h => idx_ms (z := 1) (b := b) (o := 0) (k := .i64) (h := h) hi
  have la : (ic a).length = n := by rw [ic_len, ha]
  have lb : (ic b).length = n := by rw [ic_len, hb]
  have hxa := ic_at hx
  have hyb := ic_at hy
  have sa := ic_set (nLo g x) (show i < a.length by omega)
  have sb := ic_set (nHi g y) (show i < b.length by omega)
  have la' : (ic (a.set i (nLo g x))).length = n := by rw [ic_len, List.length_set, ha]
  have lb' : (ic (b.set i (nHi g y))).length = n := by rw [ic_len, List.length_set, hb]
  have hxa' := ic_at (l := a.set i (nLo g x)) (i := i) (List.getElem?_set_self (by omega))
  have hyb' := ic_at (l := b.set i (nHi g y)) (i := i) (List.getElem?_set_self (by omega))
  have h1 : 0 + i * 1 = i := by omega
  have hle : i + 1 ≤ n := by omega
  by_cases hlh : nHi g y < nLo g x
  · rw [if_pos hlh]
    unfold nLo nHi at *
    simp only [go_sem, c19_0, mBox, nn, msBox, hlt, hix, la, lb, hxa, hyb, sa, sb, la', lb', hxa', hyb', h1, hle, hi, hw, hlh, reduceIte, Nat.reduceEqDiff, Nat.reduceAdd, Nat.reduceSub, Nat.reduceLT, Nat.reduceLeDiff, Nat.reduceMul, Int.reduceLT, Int.reduceLE, Int.reduceEq, Int.reduceNe, Int.reduceAdd, Int.reduceSub, Int.reduceNeg, Int.reduceMul]
  · rw [if_neg hlh]
    unfold nLo nHi at *
    simp only [go_sem, c19_0, mBox, nn, msBox, hlt, hix, la, lb, hxa, hyb, sa, sb, la', lb', hxa', hyb', h1, hle, hi, hw, hlh, reduceIte, Nat.reduceEqDiff, Nat.reduceAdd, Nat.reduceSub, Nat.reduceLT, Nat.reduceLeDiff, Nat.reduceMul, Int.reduceLT, Int.reduceLE, Int.reduceEq, Int.reduceNe, Int.reduceAdd, Int.reduceSub, Int.reduceNeg, Int.reduceMul]
theorem l19 (m : GMask) (g : Int) (n : Nat) (h1 : (m.least.getD []).length = n) (h2 : (m.most.getD []).length = n) (hn : n ≤ 1073741824) :
    ∃ b2 b3, X pr (.loop c19_0) ⟨[(1, .int .i64 g, false), (4, .ptr 1 0, false), (7, .ptr 4 0, false), (40, .int .i64 (n : Int), false), (41, .int .i64 0, false)], [mBox m, nn, .cells (ic (m.least.getD [])), .cells (ic (m.most.getD [])), msBox n]⟩ =
      some (if ((m.least.getD []).zip (m.most.getD [])).any (badP g) = true then (.ret, ⟨[(4, .ptr 1 0, false), (5, .int .i64 24, false)], [mBox m, nn, b2, b3, msBox n]⟩)
        else (.exit 0, ⟨[(1, .int .i64 g, false), (4, .ptr 1 0, false), (7, .ptr 4 0, false), (40, .int .i64 (n : Int), false), (41, .int .i64 (n : Int), false), (42, .bool false, false)], [mBox m, nn, .cells (ic ((m.least.getD []).map (nLo g))), .cells (ic ((m.most.getD []).map (nHi g))), msBox n]⟩)) := by
  have hz : ((m.least.getD []).zip (m.most.getD [])).length = n := by rw [List.length_zip]; omega
  have := X_loop_list (p := pr) (c := c19_0) ((m.least.getD []).zip (m.most.getD [])) (fun i (_ : Unit) => ⟨[(1, .int .i64 g, false), (4, .ptr 1 0, false), (7, .ptr 4 0, false), (40, .int .i64 (n : Int), false), (41, .int .i64 (i : Int), false)], [mBox m, nn, .cells (ic (mixL (nLo g) (m.least.getD []) i)), .cells (ic (mixL (nHi g) (m.most.getD []) i)), msBox n]⟩)
    (fun i _ xy => if badP g xy = true then .inr i else .inl ())
    (fun _ => (.exit 0, ⟨[(1, .int .i64 g, false), (4, .ptr 1 0, false), (7, .ptr 4 0, false), (40, .int .i64 (n : Int), false), (41, .int .i64 (n : Int), false), (42, .bool false, false)], [mBox m, nn, .cells (ic ((m.least.getD []).map (nLo g))), .cells (ic ((m.most.getD []).map (nHi g))), msBox n]⟩))
    (fun (i : Nat) => (.ret, ⟨[(4, .ptr 1 0, false), (5, .int .i64 24, false)], [mBox m, nn, .cells (ic (mixL (nLo g) (m.least.getD []) (i + 1))), .cells (ic (mixL (nHi g) (m.most.getD []) (i + 1))), msBox n]⟩)) (fun _ _ => True) () (fun _ h => by cases h) (fun _ h => by cases h) ?_ ?_ trivial
  · rw [Int.natCast_zero, mix_zero, mix_zero] at this
    have hr := runL_any (badP g) ((m.least.getD []).zip (m.most.getD [])) 0
    by_cases hb : ((m.least.getD []).zip (m.most.getD [])).any (badP g) = true
    · obtain ⟨j, hj⟩ := hr.2 hb
      rw [hj] at this
      exact ⟨_, _, by rw [if_pos hb]; exact this⟩
    · rw [hr.1 (by simpa using hb)] at this
      exact ⟨nn, nn, by rw [if_neg hb]; exact this⟩
  · intro s _
    have hlt : ¬ ((n : Int) < (n : Int)) := by omega
    simp only [hz, mix_all h1, mix_all h2]
    simp only [go_sem, c19_0, hlt, reduceIte, Nat.reduceEqDiff, Nat.reduceAdd, Nat.reduceSub, Nat.reduceLT, Nat.reduceLeDiff, Nat.reduceMul, Int.reduceLT, Int.reduceLE, Int.reduceEq, Int.reduceNe, Int.reduceAdd, Int.reduceSub, Int.reduceNeg, Int.reduceMul]
  · intro i s xy hx hi _
    rw [hz] at hi
    obtain ⟨x, y⟩ := xy
    obtain ⟨hxa, hxb⟩ : (m.least.getD [])[i]? = some x ∧ (m.most.getD [])[i]? = some y := by
      rw [List.getElem?_zip_eq_some] at hx; exact hx
    have hr := b19 m g (mixL (nLo g) (m.least.getD []) i) (mixL (nHi g) (m.most.getD []) i) n i x y (by rw [mix_len, h1]) (by rw [mix_len, h2]) hi hn (mix_at hxa) (mix_at hxb)
    rw [mix_set hxa, mix_set hxb] at hr
    by_cases hb : badP g (x, y) = true
    · refine stepL_out (d := i) (by simp only [if_pos hb]) ?_
      rw [if_pos (of_decide_eq_true (p := nHi g y < nLo g x) hb)] at hr
      exact hr
    · refine stepL_in (s' := ()) (by simp only [if_neg hb]) trivial ?_ (gc_same (Nat.le_refl _))
      rw [if_neg (fun hh => hb (decide_eq_true (p := nHi g y < nLo g x) hh))] at hr
      exact hr
def narrowE (m : GMask) (g : Int) : Int := firstNZ [maskE m, checkRange g 0 100000]
theorem narrowE_mask {m : GMask} {g : Int} (h : narrowE m g = 0) : maskE m = 0 := by
  by_cases hh : maskE m = 0
  · exact hh
  · simp only [narrowE, firstNZ, if_neg hh] at h; exact h
theorem maskE_len {m : GMask} (h : maskE m = 0) : (m.least.getD []).length = (m.most.getD []).length := by
  unfold maskE at h
  by_cases hz : maskA m = 0
  · exact maskA_len hz
  · rw [if_neg hz] at h; exact absurd h hz
def narrowedM (m : GMask) (g : Int) : GMask := if narrowE m g = 0 then narM' m g else ⟨none, none⟩
def narrowedE (m : GMask) (g : Int) : Int := if narrowE m g = 0 then narE m g else narrowE m g
theorem I19 (m : GMask) (g : Int) (h1 : (m.least.getD []).length ≤ 1073741824) (h2 : (m.most.getD []).length ≤ 1073741824) :
    callIso pr (X pr) 19 [.agg [sl 1 vint m.least, sl 1 vint m.most], .int .i64 g] = some (.tup [.agg [sl 1 vint (narrowedM m g).least, sl 1 vint (narrowedM m g).most], .int .i64 (narrowedE m g)], false) := by
  have h29 := I29 m h1
  by_cases hz : narrowE m g = 0
  · have he := maskE_len (narrowE_mask hz)
    obtain ⟨b2, b3, hl⟩ := l19 m g (m.least.getD []).length rfl he.symm h1
    have e1 : narrowedM m g = narM' m g := if_pos hz
    have e2 : narrowedE m g = narE m g := if_pos hz
    have hmk := fun r h => mks_full (h0 := 2) (r := r) (h := h) h1
    have hmost : ((m.most.getD []).length : Int) = ((m.least.getD []).length : Int) := by omega
    have zl : (zc (m.least.getD []).length).length = (m.least.getD []).length := by rw [zc_eq, ic_len, List.length_replicate]
    have hcp := fun (h : Heap) (b : Nat) hb => copy_full (h0 := 5) (b := b) (n := (m.least.getD []).length) (h := h) (cs := zc (m.least.getD []).length) (o := m.least) hb zl rfl
    have hcq := fun (h : Heap) (b : Nat) hb => copy_full (h0 := 5) (b := b) (n := (m.least.getD []).length) (h := h) (cs := zc (m.least.getD []).length) (o := m.most) hb zl he.symm
    have hc1 := hcp [mBox m, nn, .cells (zc (m.least.getD []).length), .cells (zc (m.least.getD []).length), msBox (m.least.getD []).length] 2 rfl
    have hc2 := hcq [mBox m, nn, .cells (ic (m.least.getD [])), .cells (zc (m.least.getD []).length), msBox (m.least.getD []).length] 3 rfl
    simp only [List.set_cons_succ, List.set_cons_zero] at hc1 hc2
    by_cases hb : ((m.least.getD []).zip (m.most.getD [])).any (badP g) = true
    · rw [if_pos hb] at hl
      have e3 : narM' m g = ⟨none, none⟩ := if_pos hb
      have e4 : narE m g = 24 := if_pos hb
      rw [e1, e2, e3, e4]
      have : ∃ hh, callFn pr (X pr) 19 [.agg [sl 1 vint m.least, sl 1 vint m.most], .int .i64 g] [] = some (.tup [.agg [sl 1 vint none, sl 1 vint none], .int .i64 24], false, hh) := by
        rw [callFn_at (show pr.fns 19 = some c19 from rfl) (by simp)]
        simp only [narrowE] at hz
        simp only [go_sem, c19, h29, I88, I87_2, hz, hmk, hmost, hc1, hc2, hl, reduceIte, Nat.reduceEqDiff, Nat.reduceAdd, Nat.reduceSub, Nat.reduceLT, Nat.reduceLeDiff, Nat.reduceMul, Int.reduceLT, Int.reduceLE, Int.reduceEq, Int.reduceNe, Int.reduceAdd, Int.reduceSub, Int.reduceNeg, Int.reduceMul]
        exact ⟨_, rfl⟩
      obtain ⟨hh, this⟩ := this
      exact callIso_of rfl this (by simp only [go_sem, reduceIte, Nat.reduceEqDiff, Nat.reduceAdd, Nat.reduceSub, Nat.reduceLT, Nat.reduceLeDiff, Nat.reduceMul, Int.reduceLT, Int.reduceLE, Int.reduceEq, Int.reduceNe, Int.reduceAdd, Int.reduceSub, Int.reduceNeg, Int.reduceMul]) (by simp only [go_sem, reduceIte, Nat.reduceEqDiff, Nat.reduceAdd, Nat.reduceSub, Nat.reduceLT, Nat.reduceLeDiff, Nat.reduceMul, Int.reduceLT, Int.reduceLE, Int.reduceEq, Int.reduceNe, Int.reduceAdd, Int.reduceSub, Int.reduceNeg, Int.reduceMul])
    · rw [if_neg hb] at hl
      have e3 : narM' m g = ⟨some ((m.least.getD []).map (nLo g)), some ((m.most.getD []).map (nHi g))⟩ := if_neg hb
      have e4 : narE m g = 0 := if_neg hb
      rw [e1, e2, e3, e4]
      have : ∃ b1 b4, callFn pr (X pr) 19 [.agg [sl 1 vint m.least, sl 1 vint m.most], .int .i64 g] [] = some (.tup [.agg [.ms 2 0 (m.least.getD []).length, .ms 3 0 (m.least.getD []).length], .int .i64 0], false, [mBox m, b1, .cells (ic ((m.least.getD []).map (nLo g))), .cells (ic ((m.most.getD []).map (nHi g))), b4]) := by
        rw [callFn_at (show pr.fns 19 = some c19 from rfl) (by simp)]
        simp only [narrowE] at hz
        simp only [go_sem, c19, h29, I88, I87_2, hz, hmk, hmost, hc1, hc2, hl, reduceIte, Nat.reduceEqDiff, Nat.reduceAdd, Nat.reduceSub, Nat.reduceLT, Nat.reduceLeDiff, Nat.reduceMul, Int.reduceLT, Int.reduceLE, Int.reduceEq, Int.reduceNe, Int.reduceAdd, Int.reduceSub, Int.reduceNeg, Int.reduceMul]
        exact ⟨_, _, rfl⟩
      obtain ⟨b1, b4, this⟩ := this
      refine callIso_of rfl this (v' := .tup [.agg [.list false 1 (((m.least.getD []).map (nLo g)).map vint), .list false 1 (((m.most.getD []).map (nHi g)).map vint)], .int .i64 0]) ?_ (by simp only [go_sem, reduceIte, Nat.reduceEqDiff, Nat.reduceAdd, Nat.reduceSub, Nat.reduceLT, Nat.reduceLeDiff, Nat.reduceMul, Int.reduceLT, Int.reduceLE, Int.reduceEq, Int.reduceNe, Int.reduceAdd, Int.reduceSub, Int.reduceNeg, Int.reduceMul])
      have f1 := frz_ic (h := [mBox m, b1, .cells (ic ((m.least.getD []).map (nLo g))), .cells (ic ((m.most.getD []).map (nHi g))), b4]) (b := 2) (xs := (m.least.getD []).map (nLo g)) (n := (m.least.getD []).length) rfl (by simp)
      have f2 := frz_ic (h := [mBox m, b1, .cells (ic ((m.least.getD []).map (nLo g))), .cells (ic ((m.most.getD []).map (nHi g))), b4]) (b := 3) (xs := (m.most.getD []).map (nHi g)) (n := (m.least.getD []).length) rfl (by simp [he])
      simp only [go_sem, f1, f2, reduceIte, Nat.reduceEqDiff, Nat.reduceAdd, Nat.reduceSub, Nat.reduceLT, Nat.reduceLeDiff, Nat.reduceMul, Int.reduceLT, Int.reduceLE, Int.reduceEq, Int.reduceNe, Int.reduceAdd, Int.reduceSub, Int.reduceNeg, Int.reduceMul]
  · have e1 : narrowedM m g = ⟨none, none⟩ := if_neg hz
    have e2 : narrowedE m g = narrowE m g := if_neg hz
    rw [e1, e2]
    have : ∃ hh, callFn pr (X pr) 19 [.agg [sl 1 vint m.least, sl 1 vint m.most], .int .i64 g] [] = some (.tup [.agg [sl 1 vint none, sl 1 vint none], .int .i64 (narrowE m g)], false, hh) := by
      rw [callFn_at (show pr.fns 19 = some c19 from rfl) (by simp)]
      simp only [narrowE] at hz ⊢
      simp only [go_sem, c19, h29, I88, I87_2, hz, reduceIte, Nat.reduceEqDiff, Nat.reduceAdd, Nat.reduceSub, Nat.reduceLT, Nat.reduceLeDiff, Nat.reduceMul, Int.reduceLT, Int.reduceLE, Int.reduceEq, Int.reduceNe, Int.reduceAdd, Int.reduceSub, Int.reduceNeg, Int.reduceMul]
      exact ⟨_, rfl⟩
    obtain ⟨hh, this⟩ := this
    exact callIso_of rfl this (by simp only [go_sem, reduceIte, Nat.reduceEqDiff, Nat.reduceAdd, Nat.reduceSub, Nat.reduceLT, Nat.reduceLeDiff, Nat.reduceMul, Int.reduceLT, Int.reduceLE, Int.reduceEq, Int.reduceNe, Int.reduceAdd, Int.reduceSub, Int.reduceNeg, Int.reduceMul]) (by simp only [go_sem, reduceIte, Nat.reduceEqDiff, Nat.reduceAdd, Nat.reduceSub, Nat.reduceLT, Nat.reduceLeDiff, Nat.reduceMul, Int.reduceLT, Int.reduceLE, Int.reduceEq, Int.reduceNe, Int.reduceAdd, Int.reduceSub, Int.reduceNeg, Int.reduceMul])
end Go.Z
