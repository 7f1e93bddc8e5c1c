/-
  LineSamples: its law holds of the functions that mirror the runs.
-/
import Derived.Test.YtbkpojiedkhfkaaY4
set_option linter.unusedVariables false
set_option linter.unusedSimpArgs false
set_option maxRecDepth 100000
set_option linter.unusedSimpArgs false
set_option linter.unusedVariables false
namespace Go.Z
open Go Go.Abs
theorem nonNil_getDy {α : Type} (l : List α) : (nonNil l).getD [] = l := by cases l <;> rfl
theorem cntT_snoc (b : Bool) : ∀ l : List Bool, cntT (l ++ [b]) = if b = true then cntT l + 1 else cntT l
  | [] => by cases b <;> rfl
  | true :: l => by simp only [List.cons_append, cntT, cntT_snoc b l]; split <;> rfl
  | false :: l => by simp only [List.cons_append, cntT, cntT_snoc b l]
theorem cntT_le : ∀ l : List Bool, cntT l ≤ l.length
  | [] => Nat.le_refl _
  | true :: l => by have := cntT_le l; simp only [cntT, List.length_cons]; omega
  | false :: l => by have := cntT_le l; simp only [cntT, List.length_cons]; omega
theorem apO_one' {α : Type} (l : List α) (x : α) (h : l.length + 1 ≤ 1073741824) : apO (some l) [x] = some (some (l ++ [x])) := by
  unfold apO apS; simp [h]
theorem apO_all {α : Type} (l : List α) (h : l.length ≤ 1073741824) : apO (some []) l = some (some l) := by
  unfold apO apS; simp [h]
theorem grow {β : Type} (s : List Bool) (b : Bool) (F : Option (List Bool) → Option β) (hs : s.length ≤ 100) :
    cond (accO s) (obind (apO (nonNil s) [b]) F) (cond (nonNil s).isNone (obind (apO (nonNil s) [b]) F) none) = F (nonNil (s ++ [b])) := by
  cases s with
  | nil => rfl
  | cons x s =>
    have : apO (some (x :: s)) [b] = some (some ((x :: s) ++ [b])) := apO_one' _ _ (by omega)
    simp only [nonNil, accO, List.isEmpty_cons, Bool.not_false, cond_true, this, obind_at]
    rfl
theorem drawn_len (l d set : Nat) : (drawn l d set).length ≤ l := by
  unfold drawn
  rw [List.length_map]
  exact Nat.le_trans (List.length_filter_le _ _) (by rw [List.length_range]; exact Nat.le_refl _)
theorem drawn_fold (d set : Nat) : ∀ (l s : List Nat) (w : List Bool), l.foldl (fun s t => if bitN set t = true then s ++ [Nat.blt t d] else s) w = w ++ (l.filter (bitN set)).map fun i => Nat.blt i d := by
  intro l s
  induction l with
  | nil => intro w; simp
  | cons t l ih =>
    intro w
    rw [List.foldl_cons]
    cases hb : bitN set t with
    | true => rw [if_pos rfl, ih]; simp [hb]
    | false => rw [if_neg (by decide), ih]; simp [hb]
theorem inner (p : GPlan) (l d set : Nat) (hp : p.lot = (l : Int)) (h8 : l ≤ 8) (hs : set < 256) (v10 : GRat × Int) (v17 : Int) (x y : Int) :
    itO (s3_1 p (d : Int) v10 v17 (x, y, (set : Int))) (none, 0, 0, false) = some (nonNil (drawn l d set), accO (drawn l d set), (cntT (drawn l d set) : Int), (l : Int)) := by
  have hlen : (List.range l).length = l := List.length_range
  have key := itO_list (δ := Option (List Bool) × Bool × Int × Int) (ε := Empty) (List.range l) (s3_1 p (d : Int) v10 v17 (x, y, (set : Int))) (fun i (s : List Bool) => (nonNil s, (cntT s : Int), (i : Int), accO s)) (fun _ s t => .inl (if bitN set t = true then s ++ [Nat.blt t d] else s)) (fun s => (nonNil s, accO s, (cntT s : Int), (l : Int))) (fun d => nomatch d) (fun i s => s.length ≤ i) [] ?_ ?_ (Nat.le_refl _)
  · have hr : runL (δ := Empty) (fun _ s t => .inl (if bitN set t = true then s ++ [Nat.blt t d] else s)) 0 [] (List.range l) = .inl (drawn l d set) := by
      rw [show (fun (_ : Nat) (s : List Bool) (t : Nat) => (Sum.inl (if bitN set t = true then s ++ [Nat.blt t d] else s) : List Bool ⊕ Empty)) = fun _ s t => .inl ((fun (s : List Bool) t => if bitN set t = true then s ++ [Nat.blt t d] else s) s t) from rfl, runL_fold, drawn_fold d set _ []]
      rfl
    rw [hr, Int.natCast_zero] at key
    exact key
  · intro s _
    rw [hlen]
    unfold s3_1
    simp [hp]
  · intro i s t ht hi hsl
    obtain ⟨rfl, hi'⟩ := range_at ht
    have hlt : (t : Int) < p.lot := by rw [hp]; omega
    obtain ⟨v, hv, hb⟩ := bit_at hs (show t < 8 by omega)
    have hw := wrap_nat (show t < 9223372036854775807 by omega)
    have hc := cntT_le s
    have hw2 := wrap_nat (show cntT s < 9223372036854775807 by omega)
    refine ⟨by
      split
      · rw [List.length_append, List.length_singleton]; omega
      · omega, ?_⟩
    unfold s3_1
    simp only [hlt, decide_true, cond_true, hv, obind_at, hb]
    cases hbt : bitN set t with
    | false => simp only [cond_false, hw, Bool.false_eq_true, if_false]
    | true =>
      simp only [cond_true, if_true]
      by_cases hd : t < d
      · have hd' : (t : Int) < (d : Int) := by omega
        have hbl : Nat.blt t d = true := by rw [nat_blt]; simp [hd]
        simp only [hd', decide_true, cond_true, hbl]
        rw [grow s true _ (by omega), cntT_snoc, if_pos rfl, hw, hw2]
        simp [accO]
      · have hd' : ¬ (t : Int) < (d : Int) := by omega
        have hbl : Nat.blt t d = false := by rw [nat_blt]; simp [hd]
        simp only [hd', decide_false, cond_false, hbl]
        rw [grow s false _ (by omega), cntT_snoc, if_neg (by decide), hw]
        simp [accO]
theorem cut_hi {l : List Bool} {x : Nat} (h : x ≤ l.length) : cutSO (some l) none (some (x : Int)) = some (some (l.take x)) := by
  unfold cutSO cutO bndI
  simp only [Option.getD_some]
  rw [if_pos ⟨by omega, by omega⟩]
  simp
theorem dec_facts {s a : Nat} (h8 : s ≤ 8) (ha : a < s) {l : List Bool} (hl : l.length = s) :
    ∃ n : Nat, 1 ≤ n ∧ n ≤ s ∧ decR (s : Int) (a : Int) l = (decide (cntT l ≤ a), (n : Int), 0) ∧ decR (s : Int) (a : Int) (l.take n) = (decide (cntT l ≤ a), (n : Int), 0) ∧ ∃ y m, decR (s : Int) (a : Int) (l.take (n - 1)) = (y, m, 7) := by
  have h := dec_good h8 ha hl
  unfold decGood at h
  rcases h1 : decR (s : Int) (a : Int) l with ⟨yes, at_, e⟩
  rw [h1] at h
  simp only [Bool.and_eq_true, decide_eq_true_eq, beq_iff_eq] at h
  obtain ⟨⟨⟨⟨⟨e0, y0⟩, a1⟩, a2⟩, h2⟩, h3⟩ := h
  obtain ⟨n, rfl⟩ : ∃ n : Nat, at_ = (n : Int) := ⟨at_.toNat, by omega⟩
  rw [Int.toNat_natCast] at h2 h3
  rcases h4 : decR (s : Int) (a : Int) (l.take n) with ⟨y2, n2, e2⟩
  rw [h4] at h2
  simp only [Bool.and_eq_true, decide_eq_true_eq, beq_iff_eq] at h2
  obtain ⟨⟨q1, q2⟩, q3⟩ := h2
  rcases h5 : decR (s : Int) (a : Int) (l.take (n - 1)) with ⟨y3, n3, e3⟩
  rw [h5] at h3
  simp only [decide_eq_true_eq] at h3
  subst q1; subst q2; subst q3; subst e0; subst h3
  refine ⟨n, by omega, by omega, by rw [y0], by rw [← y0]; exact h4, y3, n3, h5⟩
theorem outer {l s a d : Nat} (h : POk l s a) (hd : d ≤ l) (v10 : GRat × Int) :
    itO (s3_0 ⟨(l : Int), (s : Int), (a : Int)⟩ (d : Int) v10 ((2 ^ l : Nat) : Int)) (0, 0, 0) = some (.inr ((countAll (pairsOf l d) s : Int), (countGood (pairsOf l d) s a : Int), ((2 ^ l : Nat) : Int))) := by
  have h8 := h.l8
  have hsl := h.sl
  have hs1 := h.s1
  have ha1 := h.a1
  have hpow : 2 ^ l ≤ 256 := by
    have := Nat.pow_le_pow_right (show 0 < 2 by decide) h8
    simpa using this
  have hlen : (List.range (2 ^ l)).length = 2 ^ l := List.length_range
  have key := itO_list (δ := Unit ⊕ (Int × Int × Int)) (ε := Empty) (List.range (2 ^ l)) (s3_0 ⟨(l : Int), (s : Int), (a : Int)⟩ (d : Int) v10 ((2 ^ l : Nat) : Int)) (fun i (st : Nat × Nat) => ((st.1 : Int), (st.2 : Int), (i : Int)))
    (fun _ st t => .inl (if (pairOf l d t).1 = s then (st.1 + 1, if (pairOf l d t).2 ≤ a then st.2 + 1 else st.2) else st)) (fun st => .inr ((st.1 : Int), (st.2 : Int), ((2 ^ l : Nat) : Int))) (fun d => nomatch d) (fun i st => st.1 ≤ i ∧ st.2 ≤ i) (0, 0) ?_ ?_ ⟨Nat.le_refl _, Nat.le_refl _⟩
  · have hr : runL (δ := Empty) (fun _ (st : Nat × Nat) t => .inl (if (pairOf l d t).1 = s then (st.1 + 1, if (pairOf l d t).2 ≤ a then st.2 + 1 else st.2) else st)) 0 (0, 0) (List.range (2 ^ l)) = .inl (countAll (pairsOf l d) s, countGood (pairsOf l d) s a) := by
      rw [show (fun (_ : Nat) (st : Nat × Nat) (t : Nat) => (Sum.inl (if (pairOf l d t).1 = s then (st.1 + 1, if (pairOf l d t).2 ≤ a then st.2 + 1 else st.2) else st) : (Nat × Nat) ⊕ Empty)) = fun _ st t => .inl ((fun (st : Nat × Nat) t => if (pairOf l d t).1 = s then (st.1 + 1, if (pairOf l d t).2 ≤ a then st.2 + 1 else st.2) else st) st t) from rfl, runL_fold]
      congr 1
      unfold countAll countGood pairsOf
      rw [List.foldl_map, List.foldl_map]
      have : ∀ (ts : List Nat) (x y : Nat), ts.foldl (fun (st : Nat × Nat) t => if (pairOf l d t).1 = s then (st.1 + 1, if (pairOf l d t).2 ≤ a then st.2 + 1 else st.2) else st) (x, y) = (ts.foldl (fun n t => if Nat.beq (pairOf l d t).1 s then n + 1 else n) x, ts.foldl (fun n t => if Nat.beq (pairOf l d t).1 s then (if Nat.ble (pairOf l d t).2 a then n + 1 else n) else n) y) := by
        intro ts
        induction ts with
        | nil => intro x y; rfl
        | cons t ts ih =>
          intro x y
          simp only [List.foldl_cons, nat_beq, nat_ble, decide_eq_true_eq] at ih ⊢
          by_cases hp : (pairOf l d t).1 = s
          · rw [if_pos hp, if_pos hp, if_pos hp, ih]
          · rw [if_neg hp, if_neg hp, if_neg hp, ih]
      exact this _ _ _
    rw [hr] at key
    exact key
  · intro st _
    rw [hlen]
    unfold s3_0
    simp
  · intro i st t ht hi hst
    obtain ⟨rfl, hi'⟩ := range_at ht
    obtain ⟨hst1, hst2⟩ := hst
    have hlt : (t : Int) < ((2 ^ l : Nat) : Int) := by omega
    have hin := inner ⟨(l : Int), (s : Int), (a : Int)⟩ l d t rfl h8 (by omega) v10 ((2 ^ l : Nat) : Int) (st.1 : Int) (st.2 : Int)
    have hw := wrap_nat (show t < 9223372036854775807 by omega)
    have hw1 := wrap_nat (show st.1 < 9223372036854775807 by omega)
    have hw2 := wrap_nat (show st.2 < 9223372036854775807 by omega)
    have hdl := drawn_len l d t
    have hcl := cntT_le (drawn l d t)
    have hgd : (nonNil (drawn l d t)).getD [] = drawn l d t := nonNil_getDy _
    have hpl : (pairOf l d t).1 = (drawn l d t).length := rfl
    have hpc : (pairOf l d t).2 = cntT (drawn l d t) := rfl
    refine ⟨?_, ?_⟩
    · split
      · constructor
        · simp; omega
        · simp only []; split <;> omega
      · constructor <;> omega
    · unfold s3_0
      simp only [hlt, decide_true, cond_true, hin, obind_at, hgd, hpl, hpc]
      by_cases hlen2 : (drawn l d t).length = s
      · have hl' : ((drawn l d t).length : Int) = (s : Int) := by omega
        obtain ⟨n, n1, n2, d1, d2, y3, m3, d3⟩ := dec_facts (show s ≤ 8 by omega) ha1 hlen2
        have hne : drawn l d t ≠ [] := fun hh => by rw [hh] at hlen2; simp at hlen2; omega
        have hnn : nonNil (drawn l d t) = some (drawn l d t) := by
          cases hc : drawn l d t with
          | nil => exact absurd hc hne
          | cons x w => rfl
        have e1 : apO (some []) (drawn l d t) = some (some (drawn l d t)) := apO_all _ (by omega)
        have e2 := f7_eq h (some (drawn l d t)) (by simp; omega)
        rw [show (some (drawn l d t)).getD [] = drawn l d t from rfl, d1] at e2
        have e3 : cutSO (some (drawn l d t)) none (some (n : Int)) = some (some ((drawn l d t).take n)) := cut_hi (by omega)
        have e4 : apO (some []) ((drawn l d t).take n) = some (some ((drawn l d t).take n)) := apO_all _ (by rw [List.length_take]; omega)
        have e5 := f7_eq h (some ((drawn l d t).take n)) (by simp; omega)
        rw [show (some ((drawn l d t).take n)).getD [] = (drawn l d t).take n from rfl, d2] at e5
        have hwn : wrapF .i64 ((n : Int) - 1) = ((n - 1 : Nat) : Int) := by rw [wrapF_i64 (by omega) (by omega)]; omega
        have e6 : cutSO (some (drawn l d t)) none (some ((n - 1 : Nat) : Int)) = some (some ((drawn l d t).take (n - 1))) := cut_hi (by omega)
        have e7 : apO (some []) ((drawn l d t).take (n - 1)) = some (some ((drawn l d t).take (n - 1))) := apO_all _ (by rw [List.length_take]; omega)
        have e8 := f7_eq h (some ((drawn l d t).take (n - 1))) (by simp; omega)
        rw [show (some ((drawn l d t).take (n - 1))).getD [] = (drawn l d t).take (n - 1) from rfl, d3] at e8
        have c1 : ¬ (n : Int) < 1 := by omega
        have c2 : ¬ (s : Int) < (n : Int) := by omega
        by_cases hc : cntT (drawn l d t) ≤ a
        · have hc' : (cntT (drawn l d t) : Int) ≤ (a : Int) := by omega
          simp only [hc, decide_true] at e2 e5
          simp [hl', hc', hnn, e1, e2, e3, e4, e5, hwn, e6, e7, e8, c1, c2, hlen2, hc, hw, hw1, hw2]
        · have hc' : ¬ (cntT (drawn l d t) : Int) ≤ (a : Int) := by omega
          simp only [hc, decide_false] at e2 e5
          simp [hl', hc', hnn, e1, e2, e3, e4, e5, hwn, e6, e7, e8, c1, c2, hlen2, hc, hw, hw1, hw2]
      · have hl' : ¬ ((drawn l d t).length : Int) = (s : Int) := by omega
        simp only [hl', decide_false, cond_false, hlen2, if_false, hw]
end Go.Z
/-
  LineSamples: the law's function answers true; the law's run.
-/
set_option maxRecDepth 100000
set_option linter.unusedSimpArgs false
set_option linter.unusedVariables false
namespace Go.Z
open Go Go.Abs
theorem countAll_le (s : Nat) : ∀ (ps : List (Nat × Nat)) (x : Nat), ps.foldl (fun n p => if Nat.beq p.1 s then n + 1 else n) x ≤ x + ps.length
  | [], x => Nat.le_refl _
  | p :: ps, x => by
    rw [List.foldl_cons, List.length_cons]
    refine Nat.le_trans (countAll_le s ps _) ?_
    split <;> omega
theorem countGood_le (s a : Nat) : ∀ (ps : List (Nat × Nat)) (x : Nat), ps.foldl (fun n p => if Nat.beq p.1 s then (if Nat.ble p.2 a then n + 1 else n) else n) x ≤ x + ps.length
  | [], x => Nat.le_refl _
  | p :: ps, x => by
    rw [List.foldl_cons, List.length_cons]
    refine Nat.le_trans (countGood_le s a ps _) ?_
    split
    · split <;> omega
    · omega
theorem pairs_len (l d : Nat) (h : l ≤ 8) : (pairsOf l d).length ≤ 256 := by
  unfold pairsOf
  rw [List.length_map, List.length_range]
  have := Nat.pow_le_pow_right (show 0 < 2 by decide) h
  simpa using this
theorem nums_facts {l s a d : Nat} (h : POk l s a) (hd : d ≤ l) :
    1 ≤ denA l s a d ∧ numA l s a d ≤ denA l s a d ∧ denA l s a d ≤ 1000 ∧ countGood (pairsOf l d) s a * denA l s a d = numA l s a d * countAll (pairsOf l d) s ∧
    (d < l → 1 ≤ denA l s a (d + 1) ∧ denA l s a (d + 1) ≤ 1000 ∧ numA l s a (d + 1) ≤ denA l s a (d + 1) ∧ numA l s a (d + 1) * denA l s a d ≤ numA l s a d * denA l s a (d + 1)) ∧
    (a + 1 < s → 1 ≤ denA l s (a + 1) d ∧ denA l s (a + 1) d ≤ 1000 ∧ numA l s (a + 1) d ≤ denA l s (a + 1) d ∧ numA l s a d * denA l s (a + 1) d ≤ numA l s (a + 1) d * denA l s a d) := by
  have key : ∀ {d : Nat}, d ≤ l → _ := fun {d} hd => nums_ok h (d := d) hd
  have h1 := key hd
  unfold numsOk at h1
  simp only [Bool.and_eq_true, Bool.or_eq_true, nat_ble, nat_beq, decide_eq_true_eq, numT_eq, denT_eq] at h1
  obtain ⟨⟨⟨⟨⟨h2, h3⟩, h4⟩, h5⟩, h6⟩, h7⟩ := h1
  refine ⟨h2, h3, h4, h5, ?_, ?_⟩
  · intro hdl
    rcases h6 with h6 | ⟨⟨g1, g2⟩, g3⟩
    · omega
    · have h8 := key (show d + 1 ≤ l by omega)
      unfold numsOk at h8
      simp only [Bool.and_eq_true, nat_ble, decide_eq_true_eq, numT_eq, denT_eq] at h8
      exact ⟨g1, g2, h8.1.1.1.1.2, g3⟩
  · intro has
    rcases h7 with h7 | ⟨⟨⟨g1, g2⟩, g3⟩, g4⟩
    · omega
    · exact ⟨g1, g2, g3, g4⟩
theorem f6_nums {l s a d : Nat} (h : POk l s a) (hd : d ≤ l) : f6 ⟨(l : Int), (s : Int), (a : Int)⟩ (d : Int) = some (⟨(numA l s a d : Int), (denA l s a d : Int)⟩, 0) := by
  have h8 := h.l8
  have hs := h.sl
  have ha := h.a1
  have c := ch_le (n := l) (k := s) (by omega) (by omega)
  have b := accN_le (L := l) (S := s) (d := d) (a := a) hd (by omega)
  rw [f6_eq h hd, ratN_eq (by omega), ratD_eq c]
  rfl
theorem mul_le_mil {x y : Nat} (hx : x ≤ 1000) (hy : y ≤ 1000) : x * y ≤ 1000000 := Nat.le_trans (Nat.mul_le_mul hx hy) (by decide)
theorem wrap_mul {x y : Nat} (hx : x ≤ 1000) (hy : y ≤ 1000) : wrapF .i64 ((x : Int) * (y : Int)) = ((x * y : Nat) : Int) := by
  have := mul_le_mil hx hy
  rw [wrapF_i64 (by rw [← Int.natCast_mul]; omega) (by rw [← Int.natCast_mul]; omega), Int.natCast_mul]
theorem shl_pow {l : Nat} (h : l ≤ 8) : shlO .i64 1 (l : Int) = some ((2 ^ l : Nat) : Int) := by
  have : l = 0 ∨ l = 1 ∨ l = 2 ∨ l = 3 ∨ l = 4 ∨ l = 5 ∨ l = 6 ∨ l = 7 ∨ l = 8 := by omega
  rcases this with rfl | rfl | rfl | rfl | rfl | rfl | rfl | rfl | rfl <;> rfl
theorem f3_true (p : GPlan) (a1 : Int) (h0 : 0 ≤ a1) (h1 : a1 ≤ 255) : f3 p a1 = some true := by
  unfold f3
  simp only [E4, obind_at, cond_true, f5_eq]
  by_cases hp : planE p.lot p.sample p.accept = 0
  · by_cases h8 : 8 < p.lot
    · simp only [hp, h8, decide_true, cond_true]
    · obtain ⟨l, s, a, e1, e2, e3, l1, l30, s1, sl, as⟩ := plan_ok hp
      obtain ⟨L, S, A⟩ := p
      simp only [] at e1 e2 e3 hp h8 ⊢
      subst e1; subst e2; subst e3
      have hl8 : l ≤ 8 := by omega
      have h : POk l s a := ⟨hl8, s1, sl, as⟩
      obtain ⟨d, hd, hrem⟩ : ∃ d : Nat, d ≤ l ∧ remO (wrapF .i64 a1) (wrapF .i64 ((l : Int) + 1)) = some (d : Int) := by
        rw [wrapF_i64 (by omega) (by omega), wrapF_i64 (by omega) (by omega)]
        obtain ⟨n, rfl⟩ : ∃ n : Nat, a1 = (n : Int) := ⟨a1.toNat, by omega⟩
        refine ⟨n % (l + 1), by have := Nat.mod_lt n (show 0 < l + 1 by omega); omega, ?_⟩
        unfold remO
        rw [if_neg (by omega)]
        rfl
      obtain ⟨n1, n2, n3, n4, n5, n6⟩ := nums_facts h hd
      have e6 := f6_nums h hd
      have hsh := shl_pow hl8
      have ho := outer h hd (⟨(numA l s a d : Int), (denA l s a d : Int)⟩, 0)
      have hca : countAll (pairsOf l d) s ≤ 256 := by
        have := countAll_le s (pairsOf l d) 0
        have := pairs_len l d hl8
        unfold countAll; omega
      have hcg : countGood (pairsOf l d) s a ≤ 256 := by
        have := countGood_le s a (pairsOf l d) 0
        have := pairs_len l d hl8
        unfold countGood; omega
      have w1 := wrap_mul (x := countGood (pairsOf l d) s a) (y := denA l s a d) (by omega) n3
      have w2 := wrap_mul (x := numA l s a d) (y := countAll (pairsOf l d) s) (by omega) (by omega)
      have hwa : wrapF .i64 ((a : Int) + 1) = ((a + 1 : Nat) : Int) := wrap_nat (by omega)
      have hwd : wrapF .i64 ((d : Int) + 1) = ((d + 1 : Nat) : Int) := wrap_nat (by omega)
      have hA : a + 1 < s → POk l s (a + 1) := fun hh => ⟨hl8, s1, sl, hh⟩
      have c1 : ¬ ((denA l s a d : Nat) : Int) < 1 := by omega
      have c2 : ¬ ((numA l s a d : Nat) : Int) < 0 := by omega
      have c3 : ¬ ((denA l s a d : Nat) : Int) < ((numA l s a d : Nat) : Int) := by omega
      have c4 : ¬ (1000 : Int) < ((denA l s a d : Nat) : Int) := by omega
      simp only [hp, h8, decide_true, decide_false, cond_true, cond_false, hrem, obind_at, e6, c1, c2, c3, c4, hsh, ho, w1, w2, n4]
      have tail : cond (decide (((a + 1 : Nat) : Int) < (s : Int)))
          (obind (f6 (⟨(l : Int), (s : Int), ((a + 1 : Nat) : Int)⟩) (d : Int)) fun v335 =>
            cond (decide (v335.2 = 0))
             (cond (decide (v335.1.den < 1))
               (some false)
               (cond (decide (1000 < v335.1.den))
                 (some false)
                 (cond (decide (v335.1.num < 0))
                   (some false)
                   (cond (decide (v335.1.den < v335.1.num))
                     (some false)
                     (cond (decide ((wrapF .i64 (v335.1.num * (denA l s a d : Int))) < (wrapF .i64 ((numA l s a d : Int) * v335.1.den))))
                       (some false)
                       (some true))))))
             (some false))
           (some true) = some true := by
        by_cases hc : a + 1 < s
        · obtain ⟨m1, m2, m3, m4⟩ := n6 hc
          have e7 := f6_nums (hA hc) hd
          have hc' : ((a + 1 : Nat) : Int) < (s : Int) := by omega
          have w3 := wrap_mul (x := numA l s (a + 1) d) (y := denA l s a d) (by omega) n3
          have w4 := wrap_mul (x := numA l s a d) (y := denA l s (a + 1) d) (by omega) m2
          have k1 : ¬ ((denA l s (a + 1) d : Nat) : Int) < 1 := by omega
          have k2 : ¬ (1000 : Int) < ((denA l s (a + 1) d : Nat) : Int) := by omega
          have k3 : ¬ ((numA l s (a + 1) d : Nat) : Int) < 0 := by omega
          have k4 : ¬ ((denA l s (a + 1) d : Nat) : Int) < ((numA l s (a + 1) d : Nat) : Int) := by omega
          have k5 : ¬ ((numA l s (a + 1) d * denA l s a d : Nat) : Int) < ((numA l s a d * denA l s (a + 1) d : Nat) : Int) := by omega
          simp only [hc', e7, obind_at, decide_true, decide_false, cond_true, cond_false, k1, k2, k3, k4, w3, w4, k5]
        · have hc' : ¬ ((a + 1 : Nat) : Int) < (s : Int) := by omega
          simp only [hc', decide_false, cond_false]
      by_cases hdl : d < l
      · obtain ⟨m1, m2, m3, m4⟩ := n5 hdl
        have e7 := f6_nums h (show d + 1 ≤ l by omega)
        have hdl' : (d : Int) < (l : Int) := by omega
        have w3 := wrap_mul (x := numA l s a (d + 1)) (y := denA l s a d) (by omega) n3
        have w4 := wrap_mul (x := numA l s a d) (y := denA l s a (d + 1)) (by omega) m2
        have k1 : ¬ ((denA l s a (d + 1) : Nat) : Int) < 1 := by omega
        have k2 : ¬ (1000 : Int) < ((denA l s a (d + 1) : Nat) : Int) := by omega
        have k3 : ¬ ((numA l s a (d + 1) : Nat) : Int) < 0 := by omega
        have k5 : ¬ ((numA l s a d * denA l s a (d + 1) : Nat) : Int) < ((numA l s a (d + 1) * denA l s a d : Nat) : Int) := by omega
        simp only [hdl', hwd, hwa, e7, obind_at, decide_true, decide_false, cond_true, cond_false, k1, k2, k3, w3, w4, k5]
        exact tail
      · have hdl' : ¬ (d : Int) < (l : Int) := by omega
        simp only [hdl', hwa, decide_false, cond_false]
        exact tail
  · simp only [hp, decide_false, cond_false]
theorem I3 (p : GPlan) (a1 : Int) (h0 : 0 ≤ a1) (h1 : a1 ≤ 255) : callIso pr (X pr) 3 [.agg [.int .i64 p.lot, .int .i64 p.sample, .int .i64 p.accept], .int .u8 a1] = some (.bool true, false) := W3 (f3_true p a1 h0 h1)
end Go.Z
