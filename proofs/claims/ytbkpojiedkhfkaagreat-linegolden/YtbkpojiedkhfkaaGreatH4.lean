/-
  Golden units: the masks that are learned from them (no program in sight).
-/
import Derived.Test.YtbkpojiedkhfkaaGreatH1
import Derived.Test.YtbkpojiedkhfkaaGreatL17o
set_option linter.unusedVariables false
set_option linter.unusedSimpArgs false
set_option maxRecDepth 100000
set_option linter.unusedSimpArgs false
namespace Go.Z
open Go Go.Abs
theorem foldl_min_le : ∀ (l : List Int) (a : Int), l.foldl min a ≤ a ∧ (∀ v ∈ l, l.foldl min a ≤ v) ∧ (l.foldl min a = a ∨ l.foldl min a ∈ l)
  | [], a => ⟨Int.le_refl _, by simp, .inl rfl⟩
  | x :: l, a => by
    obtain ⟨h1, h2, h3⟩ := foldl_min_le l (min a x)
    simp only [List.foldl_cons]
    refine ⟨by omega, fun v hv => ?_, ?_⟩
    · rcases List.mem_cons.1 hv with rfl | hv
      · omega
      · exact h2 v hv
    · rcases h3 with h3 | h3
      · rcases Int.le_total a x with hax | hax
        · left; rw [h3]; omega
        · right; rw [h3, show min a x = x by omega]; exact List.mem_cons_self ..
      · exact .inr (List.mem_cons_of_mem _ h3)
theorem foldl_max_le : ∀ (l : List Int) (a : Int), a ≤ l.foldl max a ∧ (∀ v ∈ l, v ≤ l.foldl max a) ∧ (l.foldl max a = a ∨ l.foldl max a ∈ l)
  | [], a => ⟨Int.le_refl _, by simp, .inl rfl⟩
  | x :: l, a => by
    obtain ⟨h1, h2, h3⟩ := foldl_max_le l (max a x)
    simp only [List.foldl_cons]
    refine ⟨by omega, fun v hv => ?_, ?_⟩
    · rcases List.mem_cons.1 hv with rfl | hv
      · omega
      · exact h2 v hv
    · rcases h3 with h3 | h3
      · rcases Int.le_total a x with hax | hax
        · right; rw [h3, show max a x = x by omega]; exact List.mem_cons_self ..
        · left; rw [h3]; omega
      · exact .inr (List.mem_cons_of_mem _ h3)
theorem minL_le {l : List Int} {v : Int} (h : v ∈ l) : minL l ≤ v := by
  cases l with
  | nil => cases h
  | cons x l =>
    obtain ⟨h1, h2, _⟩ := foldl_min_le l x
    rcases List.mem_cons.1 h with rfl | h
    · exact h1
    · exact h2 v h
theorem minL_mem {l : List Int} (h : l ≠ []) : minL l ∈ l := by
  cases l with
  | nil => exact absurd rfl h
  | cons x l =>
    obtain ⟨_, _, h3⟩ := foldl_min_le l x
    rcases h3 with h3 | h3
    · exact List.mem_cons.2 (.inl h3)
    · exact List.mem_cons.2 (.inr h3)
theorem le_maxL {l : List Int} {v : Int} (h : v ∈ l) : v ≤ maxL l := by
  cases l with
  | nil => cases h
  | cons x l =>
    obtain ⟨h1, h2, _⟩ := foldl_max_le l x
    rcases List.mem_cons.1 h with rfl | h
    · exact h1
    · exact h2 v h
theorem maxL_mem {l : List Int} (h : l ≠ []) : maxL l ∈ l := by
  cases l with
  | nil => exact absurd rfl h
  | cons x l =>
    obtain ⟨_, _, h3⟩ := foldl_max_le l x
    rcases h3 with h3 | h3
    · exact List.mem_cons.2 (.inl h3)
    · exact List.mem_cons.2 (.inr h3)
theorem stepU_unit {n0 : Int} {seen : List (List UInt8)} {u : GUnit} (h : stepU n0 seen u = 0) : unitE u = 0 := firstNZ_zero h _ (List.mem_cons_self ..)
theorem firstU_unit {n0 : Int} : ∀ {l : List GUnit} {seen : List (List UInt8)}, firstU n0 seen l = 0 → ∀ u ∈ l, unitE u = 0
  | x :: l, seen, h, u, hu => by
    simp only [firstU] at h
    by_cases hz : stepU n0 seen x = 0
    · rw [if_pos hz] at h
      rcases List.mem_cons.1 hu with rfl | hu
      · exact stepU_unit hz
      · exact firstU_unit h u hu
    · rw [if_neg hz] at h; exact absurd h hz
theorem units_unit {l : List GUnit} (h : unitsE l = 0) : ∀ u ∈ l, unitE u = 0 := by
  unfold unitsE at h
  split at h
  · exact firstU_unit h
  · cases h
theorem unit_sizes {u : GUnit} (h : unitE u = 0) : u.serial.length ≤ 24 ∧ 1 ≤ (u.values.getD []).length ∧ (u.values.getD []).length ≤ 16 := by
  unfold unitE at h
  have h1 := whenE_zero (by decide) (firstNZ_zero h _ (List.mem_cons_self ..))
  have h2 := whenE_zero (by decide) (firstNZ_zero h _ (List.mem_cons_of_mem _ (List.mem_cons_self ..)))
  have h3 := whenE_zero (by decide) (firstNZ_zero h _ (List.mem_cons_of_mem _ (List.mem_cons_of_mem _ (List.mem_cons_self ..))))
  simp only [isName, Bool.not_eq_false', Bool.and_eq_true, decide_eq_true_eq] at h1
  simp only [decide_eq_false_iff_not] at h2 h3
  exact ⟨h1.1.2, by omega, by omega⟩
theorem unit_size {u : GUnit} (h : unitE u = 0) : sizeU u := by
  obtain ⟨h1, _, h3⟩ := unit_sizes h
  exact ⟨by omega, by omega⟩
theorem units_lenN {l : List GUnit} (h : unitsE l = 0) (hne : l ≠ []) : 1 ≤ lenN l ∧ lenN l ≤ 16 := by
  cases l with
  | nil => exact absurd rfl hne
  | cons u l =>
    obtain ⟨_, h2, h3⟩ := unit_sizes (units_unit h u (List.mem_cons_self ..))
    exact ⟨h2, h3⟩
def winU (l : List GUnit) : Prop := ∀ u ∈ l, ∀ v ∈ u.values.getD [], -90000 ≤ v ∧ v ≤ 90000
theorem valU_mem {t : Nat} {u : GUnit} (h : t < (u.values.getD []).length) : valU t u ∈ u.values.getD [] := List.mem_of_getElem? (valU_get h)
theorem col_ne {t : Nat} {l : List GUnit} (h : l ≠ []) : col t l ≠ [] := by unfold col; simpa using h
theorem col_win {l : List GUnit} (hu : unitsE l = 0) (hw : winU l) {t : Nat} (ht : t < lenN l) : ∀ v ∈ col t l, -90000 ≤ v ∧ v ≤ 90000 := by
  intro v hv
  obtain ⟨u, hu', rfl⟩ := List.mem_map.1 hv
  exact hw u hu' _ (valU_mem (by rw [units_len hu u hu']; exact ht))
def goldM (l : List GUnit) (g : Int) : GMask := ⟨some ((List.range (lenN l)).map fun t => minL (col t l) - g), some ((List.range (lenN l)).map fun t => maxL (col t l) + g)⟩
theorem nonNil_some {α : Type} {l : List α} (h : l ≠ []) : nonNil l = some l := by cases l <;> first | exact absurd rfl h | rfl
theorem gold_eq {l : List GUnit} {g : Int} (hu : unitsE l = 0) (hne : l ≠ []) (hw : winU l) (h0 : 0 ≤ g) (h1 : g ≤ 255) : learnedM l g = goldM l g := by
  obtain ⟨n1, n2⟩ := units_lenN hu hne
  unfold learnedM goldM
  have hn : ∀ f : Nat → Int, (List.range (lenN l)).map f ≠ [] := fun f hh => by
    have := congrArg List.length hh
    simp at this; omega
  rw [nonNil_some (hn _), nonNil_some (hn _)]
  have e1 : (List.range (lenN l)).map (fun t => loF g (col t l)) = (List.range (lenN l)).map fun t => minL (col t l) - g :=
    List.map_congr_left fun t ht => by
      have := col_win hu hw (List.mem_range.1 ht) _ (minL_mem (col_ne hne))
      unfold loF
      rw [wrapF_i64 (by omega) (by omega)]; omega
  have e2 : (List.range (lenN l)).map (fun t => hiF g (col t l)) = (List.range (lenN l)).map fun t => maxL (col t l) + g :=
    List.map_congr_left fun t ht => by
      have := col_win hu hw (List.mem_range.1 ht) _ (maxL_mem (col_ne hne))
      unfold hiF
      rw [wrapF_i64 (by omega) (by omega)]; omega
  rw [e1, e2]
theorem learn_ok {l : List GUnit} {g : Int} (hu : unitsE l = 0) (hne : l ≠ []) (h0 : 0 ≤ g) (h1 : g ≤ 255) : learnE l g = 0 := by
  unfold learnE
  have e1 : checkRange g 0 100000 = 0 := by unfold checkRange; rw [if_neg (by omega), if_neg (by omega)]
  have e2 : ¬ (l.length : Int) = 0 := by have := List.length_pos_iff.2 hne; omega
  simp [hu, hne, e1, e2, firstNZ, whenE]
theorem learnM_gold {l : List GUnit} {g : Int} (hu : unitsE l = 0) (hne : l ≠ []) (hw : winU l) (h0 : 0 ≤ g) (h1 : g ≤ 255) : learnM l g = goldM l g := by
  unfold learnM
  rw [if_pos (learn_ok hu hne h0 h1), gold_eq hu hne hw h0 h1]
@[simp] theorem gold_least (l : List GUnit) (g : Int) : (goldM l g).least.getD [] = (List.range (lenN l)).map fun t => minL (col t l) - g := rfl
@[simp] theorem gold_most (l : List GUnit) (g : Int) : (goldM l g).most.getD [] = (List.range (lenN l)).map fun t => maxL (col t l) + g := rfl
theorem gold_lo {l : List GUnit} {g : Int} {t : Nat} (h : t < lenN l) : loM (goldM l g) t = minL (col t l) - g := by
  simp [loM, List.getD_eq_getElem?_getD, h]
theorem gold_hi {l : List GUnit} {g : Int} {t : Nat} (h : t < lenN l) : hiM (goldM l g) t = maxL (col t l) + g := by
  simp [hiM, List.getD_eq_getElem?_getD, h]
theorem min_le_max {l : List GUnit} (hne : l ≠ []) (t : Nat) : minL (col t l) ≤ maxL (col t l) := minL_le (maxL_mem (col_ne hne))
theorem firstNZ_all : ∀ {l : List Int}, (∀ x ∈ l, x = 0) → firstNZ l = 0
  | [], _ => rfl
  | x :: l, h => by
    simp only [firstNZ]
    rw [if_pos (h x (List.mem_cons_self ..))]
    exact firstNZ_all fun y hy => h y (List.mem_cons_of_mem _ hy)
theorem gold_mask {l : List GUnit} {g : Int} (hu : unitsE l = 0) (hne : l ≠ []) (hw : winU l) (h0 : 0 ≤ g) (h1 : g ≤ 255) : maskE (goldM l g) = 0 := by
  obtain ⟨n1, n2⟩ := units_lenN hu hne
  have hA : maskA (goldM l g) = 0 := by
    unfold maskA
    have e1 : ¬ lenN l = 0 := by omega
    have e2 : ¬ (16 : Int) < ((lenN l : Nat) : Int) := by omega
    simp [e1, e2, firstNZ, whenE]
  unfold maskE
  rw [if_pos hA]
  apply firstNZ_all
  intro x hx
  obtain ⟨⟨a, b⟩, hab, rfl⟩ := List.mem_map.1 hx
  obtain ⟨i, hi⟩ := List.getElem?_of_mem hab
  rw [List.getElem?_zip_eq_some] at hi
  obtain ⟨ha, hb⟩ := hi
  simp only [gold_least, gold_most, List.getElem?_map] at ha hb
  obtain ⟨t, ht, ha⟩ := Option.map_eq_some_iff.1 ha
  obtain ⟨t', ht', hb⟩ := Option.map_eq_some_iff.1 hb
  rw [ht] at ht'
  cases ht'
  have htl : t < lenN l := List.mem_range.1 (List.mem_of_getElem? ht)
  have b1 := col_win hu hw htl _ (minL_mem (col_ne hne))
  have b2 := col_win hu hw htl _ (maxL_mem (col_ne hne))
  have b3 := min_le_max hne t
  apply firstNZ_all
  intro y hy
  simp only [List.mem_cons, List.not_mem_nil, or_false] at hy
  rcases hy with rfl | rfl | rfl
  · unfold checkRange; rw [if_neg (by omega), if_neg (by omega)]
  · unfold checkRange; rw [if_neg (by omega), if_neg (by omega)]
  · have : ¬ b < a := by omega
    simp [whenE, this]
theorem narrow_gold {l : List GUnit} {g : Int} (hu : unitsE l = 0) (hne : l ≠ []) (hw : winU l) (h0 : 0 ≤ g) (h1 : g ≤ 255) :
    narrowedE (ownM (goldM l g)) g = 0 ∧ (narrowedM (ownM (goldM l g)) g).least.getD [] = (goldM l 0).least.getD [] ∧ (narrowedM (ownM (goldM l g)) g).most.getD [] = (goldM l 0).most.getD [] := by
  have hm : narrowE (ownM (goldM l g)) g = 0 := by
    unfold narrowE
    have e1 : checkRange g 0 100000 = 0 := by unfold checkRange; rw [if_neg (by omega), if_neg (by omega)]
    have e2 : maskE (ownM (goldM l g)) = 0 := gold_mask hu hne hw h0 h1
    simp [e1, e2, firstNZ]
  have ea : ((ownM (goldM l g)).least.getD []).map (nLo g) = (goldM l 0).least.getD [] := by
    show ((goldM l g).least.getD []).map (nLo g) = _
    rw [gold_least, gold_least, List.map_map]
    refine List.map_congr_left fun t ht => ?_
    have := col_win hu hw (List.mem_range.1 ht) _ (minL_mem (col_ne hne))
    simp only [Function.comp, nLo]
    rw [wrapF_i64 (by omega) (by omega)]; omega
  have eb : ((ownM (goldM l g)).most.getD []).map (nHi g) = (goldM l 0).most.getD [] := by
    show ((goldM l g).most.getD []).map (nHi g) = _
    rw [gold_most, gold_most, List.map_map]
    refine List.map_congr_left fun t ht => ?_
    have := col_win hu hw (List.mem_range.1 ht) _ (maxL_mem (col_ne hne))
    simp only [Function.comp, nHi]
    rw [wrapF_i64 (by omega) (by omega)]; omega
  have hb : ¬ (((ownM (goldM l g)).least.getD []).zip ((ownM (goldM l g)).most.getD [])).any (badP g) = true := by
    intro hh
    obtain ⟨⟨a, b⟩, hab, hbad⟩ := List.any_eq_true.1 hh
    obtain ⟨i, hi⟩ := List.getElem?_of_mem hab
    rw [List.getElem?_zip_eq_some] at hi
    obtain ⟨ha, hb⟩ := hi
    have ha' : ((goldM l 0).least.getD [])[i]? = some (nLo g a) := by rw [← ea, List.getElem?_map, ha]; rfl
    have hb' : ((goldM l 0).most.getD [])[i]? = some (nHi g b) := by rw [← eb, List.getElem?_map, hb]; rfl
    simp only [gold_least, gold_most, List.getElem?_map] at ha' hb'
    obtain ⟨t, ht, ha'⟩ := Option.map_eq_some_iff.1 ha'
    obtain ⟨t', ht', hb'⟩ := Option.map_eq_some_iff.1 hb'
    rw [ht] at ht'
    cases ht'
    have := min_le_max hne t
    simp only [badP, decide_eq_true_eq] at hbad
    omega
  unfold narrowedE narrowedM
  rw [if_pos hm, if_pos hm]
  unfold narE narM'
  rw [if_neg hb, if_neg hb]
  exact ⟨rfl, ea, eb⟩
theorem gold_in {l : List GUnit} {g : Int} {u : GUnit} (hu : unitsE l = 0) (hm : u ∈ l) (h0 : 0 ≤ g) {t : Nat} (ht : t < lenN l) : loM (goldM l g) t ≤ valU t u ∧ valU t u ≤ hiM (goldM l g) t := by
  rw [gold_lo ht, gold_hi ht]
  have h1 := minL_le (l := col t l) (List.mem_map_of_mem (f := valU t) hm)
  have h2 := le_maxL (l := col t l) (List.mem_map_of_mem (f := valU t) hm)
  omega
theorem failsL_nil {m : GMask} : ∀ (l : List Int) (i : Nat), (∀ (j : Nat) (v : Int), l[j]? = some v → loM m (i + j) ≤ v ∧ v ≤ hiM m (i + j)) → failsL m i l = []
  | [], _, _ => rfl
  | v :: l, i, h => by
    have h0 := h 0 v rfl
    rw [Nat.add_zero] at h0
    have : failsAt m i v = false := by
      simp only [failsAt, failsB, Bool.or_eq_false_iff, decide_eq_false_iff_not]
      omega
    simp only [failsL, this]
    rw [if_neg (by decide)]
    exact failsL_nil l (i + 1) fun j w hw => by
      have := h (j + 1) w (by simpa using hw)
      rwa [show i + (j + 1) = i + 1 + j by omega] at this
theorem gold_fails {l : List GUnit} {g : Int} {u : GUnit} (hu : unitsE l = 0) (hm : u ∈ l) (h0 : 0 ≤ g) : failsL (goldM l g) 0 (u.values.getD []) = [] := by
  refine failsL_nil _ _ fun j v hv => ?_
  have hj : j < (u.values.getD []).length := (List.getElem?_eq_some_iff.1 hv).1
  have e : valU j u = v := by have := valU_get hj; rw [hv] at this; cases this; rfl
  have := gold_in hu hm h0 (t := j) (by rw [← units_len hu u hm]; exact hj)
  rw [e] at this
  rw [Nat.zero_add]; exact this
theorem gold_tested {l : List GUnit} {g : Int} {u : GUnit} (hu : unitsE l = 0) (hw : winU l) (hm : u ∈ l) (h0 : 0 ≤ g) (h1 : g ≤ 255) : testedE (goldM l g) u = 0 := by
  have hne : l ≠ [] := List.ne_nil_of_mem hm
  unfold testedE
  have e1 := gold_mask hu hne hw h0 h1
  have e2 := units_unit hu u hm
  have e3 := units_len hu u hm
  simp [e1, e2, e3, firstNZ, whenE]
theorem gold_graded {l : List GUnit} {g cls : Int} {u : GUnit} (hu : unitsE l = 0) (hw : winU l) (hm : u ∈ l) (h0 : 0 ≤ g) (h1 : g ≤ 255) (c1 : 1 ≤ cls) (c2 : cls ≤ 100) :
    gradedE (goldM l g) u cls = 0 ∧ gradedN (goldM l g) u cls = gradeL (goldM l g) cls 0 0 (u.values.getD []) := by
  have hz : gradeE (goldM l g) u cls = 0 := by
    unfold gradeE
    have e1 := gold_tested hu hw hm h0 h1
    have e2 : checkRange cls 1 100 = 0 := by unfold checkRange; rw [if_neg (by omega), if_neg (by omega)]
    simp [e1, e2, firstNZ]
  have hf := gold_fails (g := g) hu hm h0
  unfold gradedE gradedN
  rw [if_pos hz, if_pos hz, if_pos hf, if_pos hf]
  exact ⟨rfl, rfl⟩
theorem grade_le {cls a b v g x y : Int} (hc : 1 ≤ cls) (ha : a ≤ v) (hb : v ≤ b) (hg : 0 ≤ g) (hxy : x ≤ y) (hy : 0 ≤ y) :
    gradeStep cls (a - g) (b + g) v x ≤ gradeStep cls a b v y := by
  unfold gradeStep
  have hoff : max (2 * v - (a - g) - (b + g)) (a - g + (b + g) - 2 * v) = max (2 * v - a - b) (a + b - 2 * v) := by omega
  by_cases hab : a = b
  · rw [if_pos hab]
    split
    · exact hxy
    · subst hab
      have hv : v = a := by omega
      subst hv
      have : max (2 * v - v - v) (v + v - 2 * v) = 0 := by omega
      rw [hoff, this]
      simp only [Int.mul_zero, Int.zero_tdiv]
      omega
  · rw [if_neg hab, if_neg (by omega), hoff]
    have hp : 0 ≤ cls * max (2 * v - a - b) (a + b - 2 * v) := Int.mul_nonneg (by omega) (by omega)
    have hq : (cls * max (2 * v - a - b) (a + b - 2 * v)).tdiv (b + g - (a - g)) ≤ (cls * max (2 * v - a - b) (a + b - 2 * v)).tdiv (b - a) := by
      rw [Int.tdiv_eq_ediv_of_nonneg hp, Int.tdiv_eq_ediv_of_nonneg hp]
      refine Int.le_ediv_of_mul_le (by omega) ?_
      have h1 := Int.ediv_mul_le (cls * max (2 * v - a - b) (a + b - 2 * v)) (show b + g - (a - g) ≠ 0 by omega)
      have h2 : 0 ≤ (cls * max (2 * v - a - b) (a + b - 2 * v)) / (b + g - (a - g)) := Int.ediv_nonneg hp (by omega)
      have h3 := Int.mul_le_mul_of_nonneg_left (show b - a ≤ b + g - (a - g) by omega) h2
      omega
    omega
theorem grade_in {cls a b v g : Int} (h0 : 0 ≤ g) (h1 : g ≤ cls - 1) : 0 ≤ gradeStep cls a b v g ∧ gradeStep cls a b v g ≤ cls - 1 := by
  unfold gradeStep
  split
  · exact ⟨h0, h1⟩
  · omega
theorem gradeL_in {m : GMask} {cls : Int} : ∀ (l : List Int) (i : Nat) (g : Int), 0 ≤ g → g ≤ cls - 1 → 0 ≤ gradeL m cls i g l ∧ gradeL m cls i g l ≤ cls - 1
  | [], _, _, h0, h1 => ⟨h0, h1⟩
  | v :: l, i, g, h0, h1 => by
    obtain ⟨h2, h3⟩ := grade_in (a := loM m i) (b := hiM m i) (v := v) h0 h1
    exact gradeL_in l (i + 1) _ h2 h3
theorem gradeL_le {l : List GUnit} {g cls : Int} (hg : 0 ≤ g) (hc : 1 ≤ cls) : ∀ (w : List Int) (i : Nat) (x y : Int), (∀ (j : Nat) (v : Int), w[j]? = some v → i + j < lenN l ∧ loM (goldM l 0) (i + j) ≤ v ∧ v ≤ hiM (goldM l 0) (i + j)) →
    x ≤ y → 0 ≤ y → y ≤ cls - 1 → gradeL (goldM l g) cls i x w ≤ gradeL (goldM l 0) cls i y w
  | [], _, _, _, _, h, _, _ => h
  | v :: w, i, x, y, hv, hxy, hy, hy1 => by
    obtain ⟨h1, h2, h3⟩ := hv 0 v rfl
    rw [Nat.add_zero] at h1 h2 h3
    simp only [gradeL]
    obtain ⟨h4, h5⟩ := grade_in (cls := cls) (a := loM (goldM l 0) i) (b := hiM (goldM l 0) i) (v := v) hy hy1
    have e1 : loM (goldM l g) i = loM (goldM l 0) i - g := by rw [gold_lo h1, gold_lo h1]; omega
    have e2 : hiM (goldM l g) i = hiM (goldM l 0) i + g := by rw [gold_hi h1, gold_hi h1]; omega
    refine gradeL_le hg hc w (i + 1) _ _ (fun j u hu => ?_) ?_ h4 h5
    · have := hv (j + 1) u (by simpa using hu)
      rwa [show i + (j + 1) = i + 1 + j by omega] at this
    · rw [e1, e2]
      exact grade_le hc h2 h3 hg hxy hy
theorem gold_grades {l : List GUnit} {g cls : Int} {u : GUnit} (hu : unitsE l = 0) (hm : u ∈ l) (hg : 0 ≤ g) (hc : 1 ≤ cls) :
    gradeL (goldM l g) cls 0 0 (u.values.getD []) ≤ gradeL (goldM l 0) cls 0 0 (u.values.getD []) :=
  gradeL_le hg hc _ 0 0 0 (fun j v hv => by
    have hj : j < (u.values.getD []).length := (List.getElem?_eq_some_iff.1 hv).1
    have e : valU j u = v := by have := valU_get hj; rw [hv] at this; cases this; rfl
    have hjl : j < lenN l := by rw [← units_len hu u hm]; exact hj
    have := gold_in hu hm (Int.le_refl 0) hjl
    rw [e] at this
    rw [Nat.zero_add]; exact ⟨hjl, this⟩) (Int.le_refl _) (Int.le_refl _) (by omega)
theorem rat_one {n : Nat} (h : 0 < n) : ratN n n = 1 ∧ ratD n n = 1 := by
  unfold ratN ratD
  rw [Nat.gcd_self, Int.tdiv_self (by omega)]
  exact ⟨by decide, by decide⟩
theorem gold_yield {l : List GUnit} {g : Int} (hu : unitsE l = 0) (hne : l ≠ []) (hw : winU l) (h0 : 0 ≤ g) (h1 : g ≤ 255) : yieldE (goldM l g) l = 0 ∧ yieldV (goldM l g) l = (1, 1) := by
  have hA : yieldA (goldM l g) l = 0 := by
    unfold yieldA
    simp [gold_mask hu hne hw h0 h1, hu, firstNZ]
  have hE : yieldE (goldM l g) l = 0 := by
    unfold yieldE
    rw [if_pos hA, if_neg hne, if_pos (by simp)]
  have hN : yieldN (goldM l g) l = l.length := by
    unfold yieldN
    rw [List.countP_eq_length]
    intro u hm
    simp only [passB, decide_eq_true_eq]
    exact gold_fails hu hm h0
  refine ⟨hE, ?_⟩
  unfold yieldV
  rw [if_pos hE, hN]
  obtain ⟨e1, e2⟩ := rat_one (List.length_pos_iff.2 hne)
  rw [e1, e2]
end Go.Z
