/-
  LineLoads: the bound: whatever the order; no schedule ends before it.
-/
import Derived.Test.YtbkpojiedkhfkaaGreatD4
set_option linter.unusedVariables false
set_option linter.unusedSimpArgs false
set_option maxRecDepth 100000
set_option linter.unusedSimpArgs false
set_option linter.unusedVariables false
namespace Go.Z
open Go Go.Abs
theorem getD_lt {l : List Int} {i : Nat} (h : i < l.length) : l.getD i 0 = l[i] := by
  rw [List.getD_eq_getElem?_getD, List.getElem?_eq_getElem h]; rfl
theorem swap_perm {e : List Int} {j : Nat} (h : j + 1 < e.length) : (swapL e j).Perm e := by
  unfold swapL
  rw [getD_lt h, getD_lt (show j < e.length by omega)]
  exact List.set_set_perm (as := e) (i := j + 1) (j := j) h (by omega)
theorem sink_perm : ∀ (j : Nat) (e : List Int), j < e.length → (sink j e).Perm e
  | 0, e, _ => List.Perm.refl _
  | j + 1, e, h => by
    unfold sink
    split
    · exact (sink_perm j (swapL e j) (by rw [swap_len]; omega)).trans (swap_perm h)
    · exact List.Perm.refl _
theorem sortTo_perm (w : List Int) : ∀ i, i ≤ w.length → (sortTo w i).Perm w
  | 0, _ => List.Perm.refl _
  | i + 1, h => (sink_perm i (sortTo w i) (by rw [sortTo_len]; omega)).trans (sortTo_perm w i (by omega))
theorem sorted_pair (w : List Int) : (sortTo w w.length).Pairwise fun a b => b ≤ a := by
  rw [List.pairwise_iff_getElem]
  intro i j hi hj hij
  have h := sortTo_desc w w.length (Nat.le_refl _) i j hij (by rw [sortTo_len] at hj; exact hj)
  rw [getD_lt hi, getD_lt hj] at h
  exact h
theorem sort_same {w w' : List Int} (h : w'.Perm w) : sortTo w' w'.length = sortTo w w.length :=
  List.Perm.eq_of_pairwise (fun a b _ _ h1 h2 => Int.le_antisymm h2 h1) (sorted_pair w') (sorted_pair w) (((sortTo_perm w' _ (Nat.le_refl _)).trans h).trans (sortTo_perm w _ (Nat.le_refl _)).symm)
theorem sumI_perm {w w' : List Int} (h : w'.Perm w) : sumI w' = sumI w := by
  induction h with
  | nil => rfl
  | cons x _ ih => show x + sumI _ = x + sumI _; rw [ih]
  | swap x y l => show y + (x + sumI l) = x + (y + sumI l); omega
  | trans _ _ ih1 ih2 => rw [ih1, ih2]
theorem boundV_perm {w w' : List Int} {k : Nat} (h : w'.Perm w) : boundV w' k = boundV w k := by
  unfold boundV
  rw [sort_same h, sumI_perm h, h.length_eq]
theorem sB_in {zw : List (Int × Int)} (hz : ∀ xw ∈ zw, 0 ≤ xw.1 ∧ xw.1 ≤ 3 ∧ 0 ≤ xw.2) (b : Int) (hb : 0 ≤ b ∧ b ≤ 3) : sB zw b ≤ endZ zw := by
  have : b = 0 ∨ b = 1 ∨ b = 2 ∨ b = 3 := by omega
  unfold endZ
  rcases this with rfl | rfl | rfl | rfl <;> omega
theorem two_on : ∀ {zw : List (Int × Int)}, (∀ xw ∈ zw, 0 ≤ xw.1 ∧ xw.1 ≤ 3 ∧ 0 ≤ xw.2) → ∀ {i j : Nat} {b x y : Int}, i < j → zw[i]? = some (b, x) → zw[j]? = some (b, y) → x + y ≤ sB zw b
  | [], _, i, j, b, x, y, _, h, _ => by simp at h
  | z :: zw, hz, 0, j, b, x, y, hij, h1, h2 => by
    obtain ⟨m, rfl⟩ : ∃ m, j = m + 1 := ⟨j - 1, by omega⟩
    simp only [List.getElem?_cons_zero, Option.some.injEq] at h1
    subst h1
    have h3 : zw[m]? = some (b, y) := by simpa using h2
    have key : ∀ {zw : List (Int × Int)} {m : Nat}, (∀ xw ∈ zw, 0 ≤ xw.2) → zw[m]? = some (b, y) → y ≤ sB zw b := by
      intro zw
      induction zw with
      | nil => intro m _ h; simp at h
      | cons a zw ih =>
        intro m hz h
        rw [sB_cons]
        have h0 := hz a (List.mem_cons_self ..)
        have h1 := sB_nonneg (fun q hq => hz q (List.mem_cons_of_mem _ hq)) b
        cases m with
        | zero =>
          simp only [List.getElem?_cons_zero, Option.some.injEq] at h
          subst h
          simp only [if_true]; omega
        | succ m =>
          have := ih (m := m) (fun q hq => hz q (List.mem_cons_of_mem _ hq)) (by simpa using h)
          split <;> omega
    have h4 := key (fun q hq => (hz q (List.mem_cons_of_mem _ hq)).2.2) h3
    rw [sB_cons]
    simp only [if_true]; omega
  | z :: zw, hz, i + 1, j, b, x, y, hij, h1, h2 => by
    obtain ⟨m, rfl⟩ : ∃ m, j = m + 1 := ⟨j - 1, by omega⟩
    have := two_on (fun q hq => hz q (List.mem_cons_of_mem _ hq)) (i := i) (j := m) (by omega) (by simpa using h1) (by simpa using h2)
    rw [sB_cons]
    have h0 := (hz z (List.mem_cons_self ..)).2.2
    split <;> omega
theorem one_on : ∀ {zw : List (Int × Int)} {m : Nat} {b y : Int}, (∀ xw ∈ zw, 0 ≤ xw.2) → zw[m]? = some (b, y) → y ≤ sB zw b
  | [], m, b, y, _, h => by simp at h
  | a :: zw, m, b, y, hz, h => by
    rw [sB_cons]
    have h0 := hz a (List.mem_cons_self ..)
    have h1 := sB_nonneg (fun q hq => hz q (List.mem_cons_of_mem _ hq)) b
    cases m with
    | zero =>
      simp only [List.getElem?_cons_zero, Option.some.injEq] at h
      subst h
      simp only [if_true]; omega
    | succ m =>
      have := one_on (m := m) (fun q hq => hz q (List.mem_cons_of_mem _ hq)) (by simpa using h)
      split <;> omega
theorem sum_on {k : Nat} (hk : k ≤ 4) : ∀ {t w : List Int}, Sched k w.length t → sumI w = sB (t.zip w) 0 + sB (t.zip w) 1 + sB (t.zip w) 2 + sB (t.zip w) 3 ∧ (∀ b : Int, (k : Int) ≤ b → sB (t.zip w) b = 0)
  | [], w, ht => by
    have : w = [] := List.length_eq_zero_iff.1 (by have := ht.1; simpa using this.symm)
    subst this
    exact ⟨rfl, fun _ _ => rfl⟩
  | a :: t, [], ht => by have := ht.1; simp at this
  | a :: t, x :: w, ht => by
    obtain ⟨h1, h2⟩ := sum_on hk (t := t) (w := w) ⟨by have := ht.1; simpa using this, fun y hy => ht.2 y (List.mem_cons_of_mem _ hy)⟩
    have ha := ht.2 a (List.mem_cons_self ..)
    have hs : sumI (x :: w) = x + sumI w := rfl
    rw [List.zip_cons_cons]
    refine ⟨?_, fun b hb => ?_⟩
    · rw [sB_cons, sB_cons, sB_cons, sB_cons, hs, h1]
      have : a = 0 ∨ a = 1 ∨ a = 2 ∨ a = 3 := by omega
      rcases this with rfl | rfl | rfl | rfl <;> simp <;> omega
    · rw [sB_cons, h2 b hb, if_neg (by omega)]; rfl
theorem top_le {E : Int} : ∀ {l : List Int} {s : Int}, s ≤ E → (∀ x ∈ l, x ≤ E) → l.foldl max s ≤ E
  | [], s, h, _ => h
  | x :: l, s, h, hl => top_le (l := l) (s := max s x) (by have := hl x (List.mem_cons_self ..); omega) fun y hy => hl y (List.mem_cons_of_mem _ hy)
theorem zip_at {t w : List Int} {i : Nat} (h1 : i < t.length) (h2 : i < w.length) : (t.zip w)[i]? = some (t[i], w[i]) := by
  simp [List.getElem?_zip_eq_some, h1, h2]
theorem bound_sorted {k : Nat} {w t : List Int} (hk1 : 1 ≤ k) (hk4 : k ≤ 4) (hw : ∀ x ∈ w, 0 ≤ x) (hd : w.Pairwise fun a b => b ≤ a) (ht : Sched k w.length t) :
    max (max (top0 w) ((sumI w + k - 1) / k)) (if k < w.length then w.getD (k - 1) 0 + w.getD k 0 else 0) ≤ endS w t := by
  have hz : ∀ xw ∈ t.zip w, 0 ≤ xw.1 ∧ xw.1 ≤ 3 ∧ 0 ≤ xw.2 := by
    intro xw h
    obtain ⟨h1, h2⟩ := List.of_mem_zip (a := xw.1) (b := xw.2) h
    have := ht.2 _ h1
    exact ⟨this.1, by omega, hw _ h2⟩
  have hz2 : ∀ xw ∈ t.zip w, 0 ≤ xw.2 := fun xw h => (hz xw h).2.2
  have hin : ∀ b : Int, 0 ≤ b ∧ b ≤ 3 → sB (t.zip w) b ≤ endS w t := fun b hb => sB_in hz b hb
  have h0 : 0 ≤ endS w t := Int.le_trans (sB_nonneg hz2 0) (hin 0 ⟨by omega, by omega⟩)
  have htl : t.length = w.length := ht.1
  have htb : ∀ i (h : i < t.length), 0 ≤ t[i] ∧ t[i] < (k : Int) := fun i h => ht.2 _ (List.getElem_mem h)
  have htop : top0 w ≤ endS w t := by
    refine top_le h0 fun x hx => ?_
    obtain ⟨i, hi, rfl⟩ := List.getElem_of_mem hx
    have := htb i (by omega)
    exact Int.le_trans (one_on hz2 (zip_at (by omega) hi)) (hin _ ⟨this.1, by omega⟩)
  have hsum : (sumI w + k - 1) / k ≤ endS w t := by
    obtain ⟨s1, s2⟩ := sum_on hk4 ht
    have a0 := hin 0 ⟨by omega, by omega⟩
    have a1 := hin 1 ⟨by omega, by omega⟩
    have a2 := hin 2 ⟨by omega, by omega⟩
    have a3 := hin 3 ⟨by omega, by omega⟩
    have hle : sumI w ≤ (k : Int) * endS w t := by
      have hc : k = 1 ∨ k = 2 ∨ k = 3 ∨ k = 4 := by omega
      rcases hc with rfl | rfl | rfl | rfl
      · have b1 := s2 1 (by omega); have b2 := s2 2 (by omega); have b3 := s2 3 (by omega); omega
      · have b2 := s2 2 (by omega); have b3 := s2 3 (by omega); omega
      · have b3 := s2 3 (by omega); omega
      · omega
    have hc : k = 1 ∨ k = 2 ∨ k = 3 ∨ k = 4 := by omega
    rcases hc with rfl | rfl | rfl | rfl <;> omega
  have hpair : (if k < w.length then w.getD (k - 1) 0 + w.getD k 0 else 0) ≤ endS w t := by
    split
    · rename_i hkl
      have desc : ∀ i j (hi : i < w.length) (hj : j < w.length), i ≤ j → w[j] ≤ w[i] := by
        intro i j hi hj hij
        rcases Nat.lt_or_ge i j with h | h
        · exact List.pairwise_iff_getElem.1 hd i j hi hj h
        · have : i = j := by omega
          subst this; exact Int.le_refl _
      have two : ∀ i j (hi : i < t.length) (hj : j < t.length), i < j → j ≤ k → t[i] = t[j] → w.getD (k - 1) 0 + w.getD k 0 ≤ endS w t := by
        intro i j hi hj hij hjk he
        have h1 := zip_at (t := t) (w := w) hi (by omega)
        have h2 := zip_at (t := t) (w := w) hj (by omega)
        rw [← he] at h2
        have h3 := two_on hz hij h1 h2
        have h4 := htb i hi
        have h5 := hin t[i] ⟨h4.1, by omega⟩
        have d1 := desc i (k - 1) (by omega) (by omega) (by omega)
        have d2 := desc j k (by omega) hkl hjk
        rw [getD_lt (show k - 1 < w.length by omega), getD_lt hkl]
        omega
      have hc : k = 1 ∨ k = 2 ∨ k = 3 ∨ k = 4 := by omega
      rcases hc with rfl | rfl | rfl | rfl
      · have q0 := htb 0 (by omega); have q1 := htb 1 (by omega)
        exact two 0 1 (by omega) (by omega) (by omega) (by omega) (by omega)
      · have q0 := htb 0 (by omega); have q1 := htb 1 (by omega); have q2 := htb 2 (by omega)
        by_cases c1 : t[0] = t[1]
        · exact two 0 1 (by omega) (by omega) (by omega) (by omega) c1
        · by_cases c2 : t[0] = t[2]
          · exact two 0 2 (by omega) (by omega) (by omega) (by omega) c2
          · exact two 1 2 (by omega) (by omega) (by omega) (by omega) (by omega)
      · have q0 := htb 0 (by omega); have q1 := htb 1 (by omega); have q2 := htb 2 (by omega); have q3 := htb 3 (by omega)
        by_cases c1 : t[0] = t[1]
        · exact two 0 1 (by omega) (by omega) (by omega) (by omega) c1
        by_cases c2 : t[0] = t[2]
        · exact two 0 2 (by omega) (by omega) (by omega) (by omega) c2
        by_cases c3 : t[0] = t[3]
        · exact two 0 3 (by omega) (by omega) (by omega) (by omega) c3
        by_cases c4 : t[1] = t[2]
        · exact two 1 2 (by omega) (by omega) (by omega) (by omega) c4
        by_cases c5 : t[1] = t[3]
        · exact two 1 3 (by omega) (by omega) (by omega) (by omega) c5
        · exact two 2 3 (by omega) (by omega) (by omega) (by omega) (by omega)
      · have q0 := htb 0 (by omega); have q1 := htb 1 (by omega); have q2 := htb 2 (by omega); have q3 := htb 3 (by omega); have q4 := htb 4 (by omega)
        by_cases c1 : t[0] = t[1]
        · exact two 0 1 (by omega) (by omega) (by omega) (by omega) c1
        by_cases c2 : t[0] = t[2]
        · exact two 0 2 (by omega) (by omega) (by omega) (by omega) c2
        by_cases c3 : t[0] = t[3]
        · exact two 0 3 (by omega) (by omega) (by omega) (by omega) c3
        by_cases c4 : t[0] = t[4]
        · exact two 0 4 (by omega) (by omega) (by omega) (by omega) c4
        by_cases c5 : t[1] = t[2]
        · exact two 1 2 (by omega) (by omega) (by omega) (by omega) c5
        by_cases c6 : t[1] = t[3]
        · exact two 1 3 (by omega) (by omega) (by omega) (by omega) c6
        by_cases c7 : t[1] = t[4]
        · exact two 1 4 (by omega) (by omega) (by omega) (by omega) c7
        by_cases c8 : t[2] = t[3]
        · exact two 2 3 (by omega) (by omega) (by omega) (by omega) c8
        by_cases c9 : t[2] = t[4]
        · exact two 2 4 (by omega) (by omega) (by omega) (by omega) c9
        · exact two 3 4 (by omega) (by omega) (by omega) (by omega) (by omega)
    · exact h0
  omega
theorem bound_opt {k : Nat} {w : List Int} (hk1 : 1 ≤ k) (hk4 : k ≤ 4) (hw : ∀ x ∈ w, 0 ≤ x) : boundV w k ≤ opt w k := by
  have hp := sortTo_perm w _ (Nat.le_refl _)
  rw [opt_perm hk1 hp]
  obtain ⟨t, h1, _, h2⟩ := opt_is (w := sortTo w w.length) hk1
  rw [h2]
  have := bound_sorted hk1 hk4 (fun x hx => hw x (hp.mem_iff.1 hx)) (sorted_pair w) h1
  unfold boundV
  rw [sumI_perm hp, hp.length_eq] at this
  exact this
theorem bound_sum {k : Nat} {w : List Int} (hk1 : 1 ≤ k) (hk4 : k ≤ 4) : sumI w ≤ boundV w k * k := by
  have : (sumI w + k - 1) / k ≤ boundV w k := by unfold boundV; omega
  have hc : k = 1 ∨ k = 2 ∨ k = 3 ∨ k = 4 := by omega
  rcases hc with rfl | rfl | rfl | rfl <;> omega
end Go.Z
