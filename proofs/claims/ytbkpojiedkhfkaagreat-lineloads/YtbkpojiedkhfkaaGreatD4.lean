/-
  LineLoads: the best end is the least end of all schedules; it does not depend on the order.
-/
import Derived.Test.YtbkpojiedkhfkaaGreatB7
set_option linter.unusedVariables false
set_option linter.unusedSimpArgs false
set_option maxRecDepth 100000
set_option linter.unusedSimpArgs false
set_option linter.unusedVariables false
namespace Go.Z
open Go Go.Abs
theorem fold_min (r : Nat → Sch) : ∀ (l : List Nat) (a : Sch), ∃ s, l.foldl (fun st b => upd st (r b)) (some a) = some s ∧ s.2 ≤ a.2 ∧ (∀ b ∈ l, s.2 ≤ (r b).2) ∧ (s = a ∨ ∃ b ∈ l, s = r b)
  | [], a => ⟨a, rfl, Int.le_refl _, by simp, .inl rfl⟩
  | b :: l, a => by
    rw [List.foldl_cons]
    by_cases h : (r b).2 < a.2
    · have e : upd (some a) (r b) = some (r b) := by unfold upd; simp only []; rw [if_pos h]
      rw [e]
      obtain ⟨s, h1, h2, h3, h4⟩ := fold_min r l (r b)
      refine ⟨s, h1, by omega, fun c hc => ?_, .inr ?_⟩
      · rcases List.mem_cons.1 hc with rfl | hc
        · exact h2
        · exact h3 c hc
      · rcases h4 with rfl | ⟨c, hc, rfl⟩
        · exact ⟨b, List.mem_cons_self .., rfl⟩
        · exact ⟨c, List.mem_cons_of_mem _ hc, rfl⟩
    · have e : upd (some a) (r b) = some a := by unfold upd; simp only []; rw [if_neg h]
      rw [e]
      obtain ⟨s, h1, h2, h3, h4⟩ := fold_min r l a
      refine ⟨s, h1, h2, fun c hc => ?_, ?_⟩
      · rcases List.mem_cons.1 hc with rfl | hc
        · omega
        · exact h3 c hc
      · rcases h4 with rfl | ⟨c, hc, rfl⟩
        · exact .inl rfl
        · exact .inr ⟨c, List.mem_cons_of_mem _ hc, rfl⟩
theorem bestR_step {w : List Int} {k m : Nat} {l : List Int} (hk : 1 ≤ k) : (∀ b, b < k → (bestR w k (m + 1) l).2 ≤ (bestR w k m (l ++ [(b : Int)])).2) ∧ ∃ b, b < k ∧ bestR w k (m + 1) l = bestR w k m (l ++ [(b : Int)]) := by
  have h := bestR_fold (w := w) (k := k) (m := m) (l := l) hk
  obtain ⟨j, rfl⟩ : ∃ j, k = j + 1 := ⟨k - 1, by omega⟩
  rw [List.range_succ_eq_map, List.foldl_cons] at h
  have e : upd none (bestR w (j + 1) m (l ++ [((0 : Nat) : Int)])) = some (bestR w (j + 1) m (l ++ [((0 : Nat) : Int)])) := rfl
  rw [e] at h
  obtain ⟨s, h1, h2, h3, h4⟩ := fold_min (fun b => bestR w (j + 1) m (l ++ [(b : Int)])) ((List.range j).map Nat.succ) (bestR w (j + 1) m (l ++ [((0 : Nat) : Int)]))
  rw [h1] at h
  cases h
  refine ⟨fun b hb => ?_, ?_⟩
  · cases b with
    | zero => exact h2
    | succ b => exact h3 (b + 1) (List.mem_map.2 ⟨b, List.mem_range.2 (by omega), rfl⟩)
  · rcases h4 with h4 | ⟨b, hb, h4⟩
    · exact ⟨0, by omega, h4⟩
    · obtain ⟨c, hc, rfl⟩ := List.mem_map.1 hb
      have := List.mem_range.1 hc
      exact ⟨c + 1, by omega, h4⟩
def Sched (k m : Nat) (t : List Int) : Prop := t.length = m ∧ ∀ x ∈ t, 0 ≤ x ∧ x < (k : Int)
theorem bestR_le {w : List Int} {k : Nat} (hk : 1 ≤ k) : ∀ (m : Nat) (l t : List Int), Sched k m t → (bestR w k m l).2 ≤ endS w (l ++ t)
  | 0, l, t, ht => by
    have : t = [] := List.length_eq_zero_iff.1 ht.1
    subst this
    rw [List.append_nil]; exact Int.le_refl _
  | m + 1, l, t, ht => by
    cases t with
    | nil => have := ht.1; simp at this
    | cons x t =>
      have hx := ht.2 x (List.mem_cons_self ..)
      obtain ⟨b, rfl⟩ : ∃ b : Nat, x = (b : Int) := ⟨x.toNat, by omega⟩
      have h1 := (bestR_step (w := w) (k := k) (m := m) (l := l) hk).1 b (by omega)
      have h2 := bestR_le (w := w) hk m (l ++ [(b : Int)]) t ⟨by have := ht.1; simpa using this, fun y hy => ht.2 y (List.mem_cons_of_mem _ hy)⟩
      rw [List.append_assoc] at h2
      exact Int.le_trans h1 h2
theorem bestR_is {w : List Int} {k : Nat} (hk : 1 ≤ k) : ∀ (m : Nat) (l : List Int), ∃ t, Sched k m t ∧ bestR w k m l = (l ++ t, endS w (l ++ t))
  | 0, l => ⟨[], ⟨rfl, by simp⟩, by rw [List.append_nil]; rfl⟩
  | m + 1, l => by
    obtain ⟨b, hb, h⟩ := (bestR_step (w := w) (k := k) (m := m) (l := l) hk).2
    obtain ⟨t, ht, h2⟩ := bestR_is (w := w) hk m (l ++ [(b : Int)])
    refine ⟨(b : Int) :: t, ⟨by simp [ht.1], fun y hy => ?_⟩, ?_⟩
    · rcases List.mem_cons.1 hy with rfl | hy
      · omega
      · exact ht.2 y hy
    · rw [h, h2, List.append_assoc]; rfl
def opt (w : List Int) (k : Nat) : Int := (bestR w k w.length []).2
theorem opt_le {w t : List Int} {k : Nat} (hk : 1 ≤ k) (ht : Sched k w.length t) : opt w k ≤ endS w t := by
  have := bestR_le (w := w) hk w.length [] t ht
  rwa [List.nil_append] at this
theorem opt_is {w : List Int} {k : Nat} (hk : 1 ≤ k) : ∃ t, Sched k w.length t ∧ bestR w k w.length [] = (t, endS w t) ∧ opt w k = endS w t := by
  obtain ⟨t, h1, h2⟩ := bestR_is (w := w) hk w.length []
  rw [List.nil_append] at h2
  exact ⟨t, h1, h2, by unfold opt; rw [h2]⟩
theorem sB_cons (xw : Int × Int) (zw : List (Int × Int)) (b : Int) : sB (xw :: zw) b = (if xw.1 = b then xw.2 else 0) + sB zw b := by
  have h := sB_fold b zw (if xw.1 = b then 0 + xw.2 else 0)
  show zw.foldl (fun s xw => if xw.1 = b then s + xw.2 else s) (if xw.1 = b then 0 + xw.2 else 0) = _
  rw [h, Int.zero_add]
theorem sB_perm {zw zw' : List (Int × Int)} (h : zw.Perm zw') (b : Int) : sB zw b = sB zw' b := by
  induction h with
  | nil => rfl
  | cons x _ ih => rw [sB_cons, sB_cons, ih]
  | swap x y l => rw [sB_cons, sB_cons, sB_cons, sB_cons]; omega
  | trans _ _ ih1 ih2 => rw [ih1, ih2]
theorem endZ_perm {zw zw' : List (Int × Int)} (h : zw.Perm zw') : endZ zw = endZ zw' := by
  unfold endZ
  rw [sB_perm h, sB_perm h, sB_perm h, sB_perm h]
theorem sched_perm {k : Nat} {w w' : List Int} (h : w'.Perm w) : ∀ t, Sched k w'.length t → ∃ s, Sched k w.length s ∧ (s.zip w).Perm (t.zip w') := by
  induction h with
  | nil => intro t ht; exact ⟨t, ht, List.Perm.refl _⟩
  | cons x _ ih =>
    intro t ht
    cases t with
    | nil => have := ht.1; simp at this
    | cons a t =>
      obtain ⟨s, h1, h2⟩ := ih t ⟨by have := ht.1; simpa using this, fun y hy => ht.2 y (List.mem_cons_of_mem _ hy)⟩
      refine ⟨a :: s, ⟨by simp [h1.1], fun y hy => ?_⟩, ?_⟩
      · rcases List.mem_cons.1 hy with rfl | hy
        · exact ht.2 _ (List.mem_cons_self ..)
        · exact h1.2 y hy
      · rw [List.zip_cons_cons, List.zip_cons_cons]; exact h2.cons _
  | swap x y l =>
    intro t ht
    match t, ht with
    | [], ht => have := ht.1; simp at this
    | [a], ht => have := ht.1; simp at this
    | a :: b :: t, ht =>
      refine ⟨b :: a :: t, ⟨by have := ht.1; simpa using this, fun z hz => ht.2 z ?_⟩, ?_⟩
      · simp only [List.mem_cons] at hz ⊢
        rcases hz with h | h | h
        · exact .inr (.inl h)
        · exact .inl h
        · exact .inr (.inr h)
      · rw [List.zip_cons_cons, List.zip_cons_cons, List.zip_cons_cons, List.zip_cons_cons]; exact List.Perm.swap _ _ _
  | trans _ _ ih1 ih2 =>
    intro t ht
    obtain ⟨s, h1, h2⟩ := ih1 t ht
    obtain ⟨u, h3, h4⟩ := ih2 s h1
    exact ⟨u, h3, h4.trans h2⟩
theorem opt_perm {k : Nat} {w w' : List Int} (hk : 1 ≤ k) (h : w'.Perm w) : opt w k = opt w' k := by
  have key : ∀ {w w' : List Int}, w'.Perm w → opt w k ≤ opt w' k := by
    intro w w' h
    obtain ⟨t, h1, _, h2⟩ := opt_is (w := w') hk
    obtain ⟨s, h3, h4⟩ := sched_perm h t h1
    rw [h2]
    refine Int.le_trans (opt_le hk h3) ?_
    unfold endS
    rw [endZ_perm h4]
    exact Int.le_refl _
  exact Int.le_antisymm (key h) (key h.symm)
theorem opt_more {k : Nat} {w : List Int} (hk : 1 ≤ k) : opt w (k + 1) ≤ opt w k := by
  obtain ⟨t, h1, _, h2⟩ := opt_is (w := w) hk
  rw [h2]
  exact opt_le (by omega) ⟨h1.1, fun x hx => by have := h1.2 x hx; omega⟩
theorem sB_nonneg {zw : List (Int × Int)} (h : ∀ xw ∈ zw, 0 ≤ xw.2) (b : Int) : 0 ≤ sB zw b := by
  induction zw with
  | nil => exact Int.le_refl _
  | cons x zw ih =>
    rw [sB_cons]
    have := h x (List.mem_cons_self ..)
    have := ih fun y hy => h y (List.mem_cons_of_mem _ hy)
    split <;> omega
theorem opt_less {k : Nat} {x : Int} {w : List Int} (hk : 1 ≤ k) (hx : 0 ≤ x) : opt w k ≤ opt (x :: w) k := by
  obtain ⟨t, h1, _, h2⟩ := opt_is (w := x :: w) hk
  cases t with
  | nil => have := h1.1; simp at this
  | cons a t =>
    rw [h2]
    refine Int.le_trans (opt_le hk ⟨by have := h1.1; simpa using this, fun y hy => h1.2 y (List.mem_cons_of_mem _ hy)⟩) ?_
    unfold endS endZ
    rw [List.zip_cons_cons, sB_cons, sB_cons, sB_cons, sB_cons]
    simp only []
    have e0 : (if a = 0 then x else 0) ≥ 0 := by split <;> omega
    have e1 : (if a = 1 then x else 0) ≥ 0 := by split <;> omega
    have e2 : (if a = 2 then x else 0) ≥ 0 := by split <;> omega
    have e3 : (if a = 3 then x else 0) ≥ 0 := by split <;> omega
    generalize (if a = 0 then x else 0) = y0 at *
    generalize (if a = 1 then x else 0) = y1 at *
    generalize (if a = 2 then x else 0) = y2 at *
    generalize (if a = 3 then x else 0) = y3 at *
    generalize sB (t.zip w) 0 = z0
    generalize sB (t.zip w) 1 = z1
    generalize sB (t.zip w) 2 = z2
    generalize sB (t.zip w) 3 = z3
    omega
theorem opt_one {w : List Int} (hw : ∀ x ∈ w, 0 ≤ x) : opt w 1 = sumI w := by
  obtain ⟨t, h1, _, h2⟩ := opt_is (w := w) (k := 1) (Nat.le_refl _)
  rw [h2]
  have key : ∀ (w t : List Int), Sched 1 w.length t → (∀ x ∈ w, 0 ≤ x) → sB (t.zip w) 0 = sumI w ∧ sB (t.zip w) 1 = 0 ∧ sB (t.zip w) 2 = 0 ∧ sB (t.zip w) 3 = 0 ∧ 0 ≤ sumI w := by
    intro w
    induction w with
    | nil => intro t ht _; have : t = [] := List.length_eq_zero_iff.1 ht.1
             subst this; exact ⟨rfl, rfl, rfl, rfl, Int.le_refl _⟩
    | cons x w ih =>
      intro t ht hw
      cases t with
      | nil => have := ht.1; simp at this
      | cons a t =>
        have ha := ht.2 a (List.mem_cons_self ..)
        have ha0 : a = 0 := by omega
        subst ha0
        obtain ⟨q0, q1, q2, q3, q4⟩ := ih t ⟨by have := ht.1; simpa using this, fun y hy => ht.2 y (List.mem_cons_of_mem _ hy)⟩ fun y hy => hw y (List.mem_cons_of_mem _ hy)
        have hx := hw x (List.mem_cons_self ..)
        have hs : sumI (x :: w) = x + sumI w := rfl
        rw [List.zip_cons_cons, sB_cons, sB_cons, sB_cons, sB_cons, q0, q1, q2, q3, hs]
        refine ⟨by simp, by simp, by simp, by simp, by omega⟩
  obtain ⟨q0, q1, q2, q3, q4⟩ := key w t h1 hw
  unfold endS endZ
  rw [q0, q1, q2, q3]
  omega
end Go.Z
