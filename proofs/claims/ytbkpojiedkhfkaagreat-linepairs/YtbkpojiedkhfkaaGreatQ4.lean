/-
  LinePairs: pairings are checked, both ways.
-/
import Derived.Test.YtbkpojiedkhfkaaGreatQ1
import Derived.Test.YtbkpojiedkhfkaaGreatR5
set_option linter.unusedVariables false
set_option linter.unusedSimpArgs false
set_option maxRecDepth 100000
set_option linter.unusedSimpArgs false
set_option linter.unusedVariables false
namespace Go.Z
open Go Go.Abs
def pairX (n : Int) (seen : List Int) (last : Int) (q : GPair) : Int :=
  if min q.a q.b < 0 ∨ n ≤ max q.a q.b then 10 else if q.b ≤ q.a ∨ q.a ≤ last then 11 else if memI seen q.a = true ∨ memI seen q.b = true then 9 else 0
def pairsX (n : Int) : List Int → Int → List GPair → Int
  | _, _, [] => 0
  | seen, last, q :: p => if pairX n seen last q = 0 then pairsX n (seen ++ [q.a, q.b]) q.a p else pairX n seen last q
theorem pairX_zero {n : Int} {seen : List Int} {last : Int} {q : GPair} (h : pairX n seen last q = 0) : 0 ≤ q.a ∧ q.a < q.b ∧ q.b < n ∧ last < q.a ∧ memI seen q.a = false ∧ memI seen q.b = false := by
  unfold pairX at h
  split at h
  · cases h
  · split at h
    · cases h
    · split at h
      · cases h
      · rename_i h1 h2 h3
        refine ⟨by omega, by omega, by omega, by omega, ?_, ?_⟩
        · cases hm : memI seen q.a with
          | false => rfl
          | true => exact absurd (.inl hm) h3
        · cases hm : memI seen q.b with
          | false => rfl
          | true => exact absurd (.inr hm) h3
theorem pairsX_in {n : Int} : ∀ {p : List GPair} {seen : List Int} {last : Int}, pairsX n seen last p = 0 → ∀ q ∈ p, 0 ≤ q.a ∧ q.a < n ∧ 0 ≤ q.b ∧ q.b < n
  | [], _, _, _, q, hq => by cases hq
  | x :: p, seen, last, h, q, hq => by
    unfold pairsX at h
    by_cases hz : pairX n seen last x = 0
    · rw [if_pos hz] at h
      rcases List.mem_cons.1 hq with rfl | hq
      · obtain ⟨h1, h2, h3, h4, _⟩ := pairX_zero hz
        exact ⟨h1, by omega, by omega, h3⟩
      · exact pairsX_in h q hq
    · rw [if_neg hz] at h; exact absurd h hz
theorem E94_3 (a b c : Int) : E94 (some [a, b, c]) = some (firstNZ [a, b, c]) := exO_of ⟨by simp, by simp⟩
theorem addO_two {seen : List Int} {a b : Int} (hs : seen.length ≤ 1000) (ha : memI seen a = false) (hb : memI seen b = false) (hab : a < b) : addO seen a = some (seen ++ [a]) ∧ addO (seen ++ [a]) b = some (seen ++ [a, b]) := by
  have hb2 : memI (seen ++ [a]) b = false := by
    unfold memI at hb ⊢
    rw [List.contains_eq_mem] at hb ⊢
    simp only [decide_eq_false_iff_not] at hb ⊢
    intro h
    rcases List.mem_append.1 h with h | h
    · exact hb h
    · simp only [List.mem_singleton] at h; omega
  refine ⟨?_, ?_⟩
  · unfold addO
    rw [ha]
    simp only [Bool.false_eq_true, if_false]
    rw [if_pos (by omega)]
  · unfold addO
    rw [hb2]
    simp only [Bool.false_eq_true, if_false]
    rw [if_pos (by simp; omega)]
    simp
set_option maxHeartbeats 4000000 in
theorem s66_eq {o : Option (List GUnit)} {op : Option (List GPair)} {i : Nat} {q : GPair} {seen : List Int} {la lb : Int} (hq : (op.getD [])[i]? = some q) (hi : i ≤ 1000) (hs : seen.length ≤ 1000) :
    s66_0 o op ((i : Int), seen, la, lb) = some (if pairX ((o.getD []).length : Int) seen la q = 0 then .inl (((i + 1 : Nat) : Int), seen ++ [q.a, q.b], q.a, q.b) else .inr (.inl (pairX ((o.getD []).length : Int) seen la q, seen, la, lb, q.a, q.b))) := by
  have hlt : (i : Int) < ((op.getD []).length : Int) := by have := (List.getElem?_eq_some_iff.1 hq).1; omega
  have hw : wrapF .i64 ((i : Int) + 1) = ((i + 1 : Nat) : Int) := wrap_nat (by omega)
  have f1 : ∀ x y : Int, firstNZ [10, x, y] = 10 := fun x y => by simp [firstNZ]
  have f2 : ∀ y : Int, firstNZ [0, 11, y] = 11 := fun y => by simp [firstNZ]
  have f3 : firstNZ [0, 0, 9] = 9 := by simp [firstNZ]
  have f4 : firstNZ [0, 0, 0] = 0 := by simp [firstNZ]
  have w1 : ∀ e, whenE true e = e := fun e => rfl
  have w0 : ∀ e, whenE false e = 0 := fun e => rfl
  unfold s66_0 pairX
  simp only [hlt, decide_true, cond_true, idxO_nat, hq, obind_at, E24, E94_3, w1, w0, hw]
  by_cases c1 : min q.a q.b < 0
  · have c1' : (min q.a q.b < 0 ∨ ((o.getD []).length : Int) ≤ max q.a q.b) := .inl c1
    have n10 : ¬ (10 : Int) = 0 := by decide
    simp only [c1, c1', if_true, decide_true, cond_true, f1, n10, decide_false, cond_false, if_false]
    cases decide (q.b ≤ q.a) <;> cases decide (q.a ≤ la) <;> cases memI seen q.a <;> rfl
  · by_cases c2 : ((o.getD []).length : Int) ≤ max q.a q.b
    · have c1' : (min q.a q.b < 0 ∨ ((o.getD []).length : Int) ≤ max q.a q.b) := .inr c2
      have n10 : ¬ (10 : Int) = 0 := by decide
      simp only [c1, c2, c1', if_true, decide_true, cond_true, f1, n10, decide_false, cond_false, if_false, w1]
      cases decide (q.b ≤ q.a) <;> cases decide (q.a ≤ la) <;> cases memI seen q.a <;> rfl
    · have c1' : ¬ (min q.a q.b < 0 ∨ ((o.getD []).length : Int) ≤ max q.a q.b) := fun h => h.elim c1 c2
      have n11 : ¬ (11 : Int) = 0 := by decide
      simp only [c1, c2, c1', if_false, decide_false, cond_false, w0]
      by_cases c3 : q.b ≤ q.a
      · have c3' : q.b ≤ q.a ∨ q.a ≤ la := .inl c3
        simp only [c3, c3', decide_true, cond_true, if_true, f2, n11, decide_false, cond_false, if_false]
        cases memI seen q.a <;> rfl
      · by_cases c4 : q.a ≤ la
        · have c3' : q.b ≤ q.a ∨ q.a ≤ la := .inr c4
          simp only [c3, c4, c3', decide_true, decide_false, cond_true, cond_false, if_true, f2, n11, if_false]
          cases memI seen q.a <;> rfl
        · have c3' : ¬ (q.b ≤ q.a ∨ q.a ≤ la) := fun h => h.elim c3 c4
          have c5 : ¬ q.a = la := by omega
          have n9 : ¬ (9 : Int) = 0 := by decide
          simp only [c3, c4, c3', c5, decide_false, cond_false, if_false, Bool.false_and, w0]
          cases m1 : memI seen q.a with
          | true => simp only [cond_true, f3, n9, decide_false, cond_false, true_or, or_self, if_true, if_false]
          | false =>
            cases m2 : memI seen q.b with
            | true => simp only [cond_false, w1, f3, n9, decide_false, or_true, or_self, if_true, if_false]
            | false =>
              obtain ⟨a1, a2⟩ := addO_two hs m1 m2 (by omega)
              simp only [cond_false, w0, f4, decide_true, cond_true, a1, a2, obind_at, Bool.false_eq_true, or_self, if_false, if_true]
theorem loop66 {o : Option (List GUnit)} {op : Option (List GPair)} (hn : (op.getD []).length ≤ 100) : ∀ (m i : Nat) (seen : List Int) (la lb : Int), i + m = (op.getD []).length → seen.length ≤ 2 * i →
    (pairsX ((o.getD []).length : Int) seen la ((op.getD []).drop i) = 0 → ∃ d, itO (s66_0 o op) ((i : Int), seen, la, lb) = some (.inr d)) ∧
    (pairsX ((o.getD []).length : Int) seen la ((op.getD []).drop i) ≠ 0 → ∃ d, itO (s66_0 o op) ((i : Int), seen, la, lb) = some (.inl (pairsX ((o.getD []).length : Int) seen la ((op.getD []).drop i), d)))
  | 0, i, seen, la, lb, hi, hs => by
    have hlt : ¬ (i : Int) < ((op.getD []).length : Int) := by omega
    have e : (op.getD []).drop i = [] := List.drop_eq_nil_of_le (by omega)
    rw [e]
    refine ⟨fun _ => ⟨_, itO_out (by unfold s66_0; simp only [hlt, decide_false, cond_false]; rfl)⟩, fun h => absurd rfl h⟩
  | m + 1, i, seen, la, lb, hi, hs => by
    have hil : i < (op.getD []).length := by omega
    have hq : (op.getD [])[i]? = some (op.getD [])[i] := List.getElem?_eq_getElem hil
    have hstep := s66_eq (o := o) (la := la) (lb := lb) (seen := seen) hq (by omega) (by omega)
    have e : (op.getD []).drop i = (op.getD [])[i] :: (op.getD []).drop (i + 1) := List.drop_eq_getElem_cons hil
    rw [e]
    unfold pairsX
    by_cases hz : pairX ((o.getD []).length : Int) seen la (op.getD [])[i] = 0
    · rw [if_pos hz] at hstep ⊢
      rw [itO_in hstep]
      exact loop66 hn m (i + 1) _ _ _ (by omega) (by simp; omega)
    · rw [if_neg hz] at hstep ⊢
      exact ⟨fun h => absurd h hz, fun _ => ⟨_, itO_out hstep⟩⟩
def shapeE (n k : Int) : Int := firstNZ [whenE (!decide (n.tmod 2 = 0)) 35, whenE (!decide (2 * k = n)) 2]
theorem f66_eq {o : Option (List GUnit)} {op : Option (List GPair)} {l : List GUnit} {p : List GPair} (h : o.getD [] = l) (h2 : op.getD [] = p) (hn : p.length ≤ 100) (e22 : E22 o = some (unitsE l)) :
    f66 o op = some (if unitsE l = 0 then (if shapeE (l.length : Int) (p.length : Int) = 0 then (if pairsX (l.length : Int) [] (-1) p = 0 then (worstP l p, 0) else (0, pairsX (l.length : Int) [] (-1) p)) else (0, shapeE (l.length : Int) (p.length : Int))) else (0, unitsE l)) := by
  unfold f66
  have hrem : remO (l.length : Int) 2 = some ((l.length : Int).tmod 2) := by unfold remO; rw [if_neg (by decide)]
  have hw : wrapF .i64 (2 * (p.length : Int)) = 2 * (p.length : Int) := wrapF_i64 (by omega) (by omega)
  simp only [e22, obind_at, h, h2, hrem, E24, hw, E94_3]
  have hf : firstNZ [unitsE l, whenE (!decide ((l.length : Int).tmod 2 = 0)) 35, whenE (!decide (2 * (p.length : Int) = (l.length : Int))) 2] = if unitsE l = 0 then shapeE (l.length : Int) (p.length : Int) else unitsE l := by
    unfold shapeE; simp only [firstNZ]
  rw [hf]
  by_cases hz : unitsE l = 0
  · rw [if_pos hz, if_pos hz]
    by_cases hs : shapeE (l.length : Int) (p.length : Int) = 0
    · rw [if_pos hs]
      simp only [hs, decide_true, cond_true]
      have hloop := loop66 (o := o) (op := op) (by rw [h2]; exact hn) p.length 0 [] (-1) (-1) (by rw [h2]; omega) (by simp)
      rw [h, h2, List.drop_zero, Int.natCast_zero] at hloop
      by_cases hp : pairsX (l.length : Int) [] (-1) p = 0
      · obtain ⟨d, hd⟩ := hloop.1 hp
        have h122 := f122_eq h h2 (units_ok hz) (fun q hq => pairsX_in hp q hq) (by omega)
        rw [hd, if_pos hp]
        simp only [obind_at, h122]
      · obtain ⟨d, hd⟩ := hloop.2 hp
        rw [hd, if_neg hp]
        simp only [obind_at]
    · rw [if_neg hs]
      simp only [hs, decide_false, cond_false]
  · rw [if_neg hz, if_neg hz]
    simp only [hz, decide_false, cond_false]
end Go.Z
/-
  LinePairs: the reference's check of a pairing.
-/
set_option maxRecDepth 100000
set_option linter.unusedSimpArgs false
set_option linter.unusedVariables false
namespace Go.Z
open Go Go.Abs
theorem f124_eq {o : Option (List Int)} {l : List Int} {x : Int} (h : o.getD [] = l) (hn : l.length ≤ 1000) : f124 o x = some (memI l x) := by
  have key : ∀ (m i : Nat), i + m = l.length → itO (s124_0 o x) (i : Int) = some (bif (l.drop i).contains x then .inl () else .inr (l.length : Int)) := by
    intro m
    induction m with
    | zero =>
      intro i hi
      have hlt : ¬ (i : Int) < (l.length : Int) := by omega
      have e : l.drop i = [] := List.drop_eq_nil_of_le (by omega)
      have e2 : (i : Int) = (l.length : Int) := by omega
      rw [e]
      refine itO_out ?_
      unfold s124_0
      have hlt2 : ¬ (l.length : Int) < (l.length : Int) := by omega
      simp only [h, e2, hlt2, decide_false, cond_false]
      rfl
    | succ m ih =>
      intro i hi
      have hil : i < l.length := by omega
      have hlt : (i : Int) < (l.length : Int) := by omega
      rw [List.drop_eq_getElem_cons hil, List.contains_cons]
      by_cases he : l[i] = x
      · have hb : (x == l[i]) = true := by rw [he]; exact beq_self_eq_true x
        rw [hb, Bool.true_or]
        refine itO_out ?_
        unfold s124_0
        simp only [h, hlt, decide_true, cond_true, idxO_nat, List.getElem?_eq_getElem hil, obind_at, he]
      · have hb : (x == l[i]) = false := by
          rw [beq_eq_false_iff_ne]; exact fun e => he e.symm
        have hs : s124_0 o x (i : Int) = some (.inl ((i + 1 : Nat) : Int)) := by
          unfold s124_0
          simp only [h, hlt, decide_true, cond_true, idxO_nat, List.getElem?_eq_getElem hil, obind_at, he, decide_false, cond_false, wrap_nat (show i < 9223372036854775807 by omega)]
        rw [itO_in hs, hb, Bool.false_or]
        exact ih (i + 1) (by omega)
  have := key l.length 0 (by omega)
  rw [Int.natCast_zero, List.drop_zero] at this
  unfold f124 memI
  rw [this]
  cases l.contains x <;> rfl
theorem growTwo {β : Type} (s : List Int) (x y : Int) (F : Option (List Int) → Option β) (hs : s.length ≤ 100000) :
    cond (accO s) (obind (apO (nonNil s) [x, y]) F) (cond (nonNil s).isNone (obind (apO (nonNil s) [x, y]) F) none) = F (nonNil (s ++ [x, y])) := by
  cases s with
  | nil => rfl
  | cons z s =>
    have : apO (some (z :: s)) [x, y] = some (some ((z :: s) ++ [x, y])) := by
      unfold apO apS
      rw [if_pos (by simp at hs ⊢; omega)]
      rfl
    simp only [nonNil, accO, List.isEmpty_cons, Bool.not_false, cond_true, this, obind_at]
    rfl
theorem range_iff (x n : Int) : (checkRange x 0 (n - 1) = 0) = (0 ≤ x ∧ x < n) := by
  unfold checkRange
  apply propext
  constructor
  · intro h
    by_cases h1 : x < 0
    · rw [if_pos h1] at h; cases h
    · rw [if_neg h1] at h
      by_cases h2 : n - 1 < x
      · rw [if_pos h2] at h; cases h
      · omega
  · intro h
    rw [if_neg (by omega), if_neg (by omega)]
set_option maxHeartbeats 4000000 in
theorem s70_eq {o : Option (List GUnit)} {op : Option (List GPair)} {i : Nat} {q : GPair} {seen : List Int} {last : Int} (hq : (op.getD [])[i]? = some q) (hi : i ≤ 1000) (hs : seen.length ≤ 1000) (hon : (o.getD []).length ≤ 1000)
    (hlast : if i = 0 then last = -1 else ∃ q', (op.getD [])[i - 1]? = some q' ∧ last = q'.a) :
    s70_0 o op (nonNil seen, (i : Int), accO seen) = some (if pairX ((o.getD []).length : Int) seen last q = 0 then .inl (nonNil (seen ++ [q.a, q.b]), ((i + 1 : Nat) : Int), true) else .inr (.inl (pairX ((o.getD []).length : Int) seen last q))) := by
  have hlt : (i : Int) < ((op.getD []).length : Int) := by have := (List.getElem?_eq_some_iff.1 hq).1; omega
  have hw : wrapF .i64 ((i : Int) + 1) = ((i + 1 : Nat) : Int) := wrap_nat (by omega)
  have hn1 : wrapF .i64 (((o.getD []).length : Int) - 1) = ((o.getD []).length : Int) - 1 := wrapF_i64 (by omega) (by omega)
  have hmem : ∀ x, f124 (nonNil seen) x = some (memI seen x) := fun x => f124_eq (nonNil_get' seen) hs
  have n11 : ¬ (11 : Int) = 0 := by decide
  have n10 : ¬ (10 : Int) = 0 := by decide
  have n9 : ¬ (9 : Int) = 0 := by decide
  unfold s70_0
  simp only [hlt, decide_true, cond_true, idxO_nat, hq, obind_at, E23, hn1, hmem, hw, growTwo _ _ _ _ (show seen.length ≤ 100000 by omega), range_iff]
  unfold pairX
  by_cases c1 : 0 ≤ q.a ∧ q.a < ((o.getD []).length : Int)
  · by_cases c2 : 0 ≤ q.b ∧ q.b < ((o.getD []).length : Int)
    · rw [if_neg (show ¬ (min q.a q.b < 0 ∨ ((o.getD []).length : Int) ≤ max q.a q.b) by omega)]
      simp only [c1, c2, and_self, decide_true, cond_true]
      by_cases c3 : q.b ≤ q.a
      · rw [if_pos (Or.inl c3)]
        simp only [c3, decide_true, cond_true, n11, if_false]
      · simp only [c3, decide_false, cond_false, false_or]
        have tail : ∀ c4 : ¬ q.a ≤ last, cond (memI seen q.a) (some (.inr (.inl (9 : Int)))) (cond (memI seen q.b) (some (.inr (.inl 9))) (some (.inl (nonNil (seen ++ [q.a, q.b]), ((i + 1 : Nat) : Int), true)))) =
            some (if (if q.a ≤ last then 11 else if memI seen q.a = true ∨ memI seen q.b = true then 9 else 0) = (0 : Int) then (.inl (nonNil (seen ++ [q.a, q.b]), ((i + 1 : Nat) : Int), true) : ((Option (List Int)) × Int × Bool) ⊕ (Int ⊕ ((Option (List Int)) × Bool × Int))) else .inr (.inl (if q.a ≤ last then 11 else if memI seen q.a = true ∨ memI seen q.b = true then 9 else 0))) := by
          intro c4
          rw [if_neg c4]
          cases memI seen q.a <;> cases memI seen q.b <;> rfl
        by_cases h0 : i = 0
        · subst h0
          have hl : last = -1 := by simpa using hlast
          have h00 : ¬ (0 : Int) < ((0 : Nat) : Int) := by omega
          simp only [h00, decide_false, cond_false]
          exact tail (by omega)
        · rw [if_neg h0] at hlast
          obtain ⟨q', hq', hl⟩ := hlast
          have h00 : (0 : Int) < (i : Int) := by omega
          have hwi : wrapF .i64 ((i : Int) - 1) = ((i - 1 : Nat) : Int) := by rw [wrapF_i64 (by omega) (by omega)]; omega
          simp only [h00, decide_true, cond_true, hwi, idxO_nat, hq', obind_at, ← hl]
          by_cases c4 : q.a ≤ last
          · simp only [c4, decide_true, cond_true, if_true, n11, if_false]
          · simp only [show decide (q.a ≤ last) = false by simp [c4], cond_false]
            exact tail c4
    · rw [if_pos (show (min q.a q.b < 0 ∨ ((o.getD []).length : Int) ≤ max q.a q.b) by omega)]
      simp only [c1, c2, and_self, decide_true, decide_false, cond_true, cond_false, n10, if_false]
  · rw [if_pos (show (min q.a q.b < 0 ∨ ((o.getD []).length : Int) ≤ max q.a q.b) by omega)]
    simp only [c1, decide_false, cond_false, n10, if_false]
theorem loop70 {o : Option (List GUnit)} {op : Option (List GPair)} (hn : (op.getD []).length ≤ 100) (hon : (o.getD []).length ≤ 1000) : ∀ (m i : Nat) (seen : List Int) (last : Int), i + m = (op.getD []).length → seen.length ≤ 2 * i → (if i = 0 then last = -1 else ∃ q', (op.getD [])[i - 1]? = some q' ∧ last = q'.a) →
    (pairsX ((o.getD []).length : Int) seen last ((op.getD []).drop i) = 0 → ∃ d, itO (s70_0 o op) (nonNil seen, (i : Int), accO seen) = some (.inr d)) ∧
    (pairsX ((o.getD []).length : Int) seen last ((op.getD []).drop i) ≠ 0 → itO (s70_0 o op) (nonNil seen, (i : Int), accO seen) = some (.inl (pairsX ((o.getD []).length : Int) seen last ((op.getD []).drop i))))
  | 0, i, seen, last, hi, hs, _ => by
    have hlt : ¬ (i : Int) < ((op.getD []).length : Int) := by omega
    have e : (op.getD []).drop i = [] := List.drop_eq_nil_of_le (by omega)
    rw [e]
    refine ⟨fun _ => ⟨_, itO_out (by unfold s70_0; simp only [hlt, decide_false, cond_false]; rfl)⟩, fun h => absurd rfl h⟩
  | m + 1, i, seen, last, hi, hs, hl => by
    have hil : i < (op.getD []).length := by omega
    have hq : (op.getD [])[i]? = some (op.getD [])[i] := List.getElem?_eq_getElem hil
    have hstep := s70_eq (o := o) (seen := seen) hq (by omega) (by omega) hon hl
    have e : (op.getD []).drop i = (op.getD [])[i] :: (op.getD []).drop (i + 1) := List.drop_eq_getElem_cons hil
    rw [e]
    unfold pairsX
    by_cases hz : pairX ((o.getD []).length : Int) seen last (op.getD [])[i] = 0
    · rw [if_pos hz] at hstep ⊢
      have hacc : accO (seen ++ [(op.getD [])[i].a, (op.getD [])[i].b]) = true := by cases seen <;> rfl
      have := loop70 hn hon m (i + 1) (seen ++ [(op.getD [])[i].a, (op.getD [])[i].b]) (op.getD [])[i].a (by omega) (by simp; omega) (by rw [if_neg (by omega)]; exact ⟨_, by simp, rfl⟩)
      rw [hacc] at this
      rw [itO_in hstep]
      exact this
    · rw [if_neg hz] at hstep ⊢
      exact ⟨fun h => absurd h hz, fun _ => itO_out hstep⟩
theorem f70_eq {o : Option (List GUnit)} {op : Option (List GPair)} {l : List GUnit} {p : List GPair} (h : o.getD [] = l) (h2 : op.getD [] = p) (hn : p.length ≤ 100) (hln : l.length ≤ 1000) :
    f70 o op = some (if shapeE (l.length : Int) (p.length : Int) = 0 then pairsX (l.length : Int) [] (-1) p else shapeE (l.length : Int) (p.length : Int)) := by
  unfold f70 shapeE
  have hrem : remO (l.length : Int) 2 = some ((l.length : Int).tmod 2) := by unfold remO; rw [if_neg (by decide)]
  have hw : wrapF .i64 (2 * (p.length : Int)) = 2 * (p.length : Int) := wrapF_i64 (by omega) (by omega)
  simp only [h, h2, hrem, obind_at, hw]
  by_cases c1 : (l.length : Int).tmod 2 = 0
  · by_cases c2 : 2 * (p.length : Int) = (l.length : Int)
    · simp only [c1, c2, decide_true, cond_true, Bool.not_true, whenE, Bool.false_eq_true, if_false, firstNZ, if_true]
      have hloop := loop70 (o := o) (op := op) (by rw [h2]; exact hn) (by rw [h]; exact hln) p.length 0 [] (-1) (by rw [h2]; omega) (by simp) (by simp)
      rw [h, h2, List.drop_zero, Int.natCast_zero] at hloop
      by_cases hp : pairsX (l.length : Int) [] (-1) p = 0
      · obtain ⟨d, hd⟩ := hloop.1 hp
        rw [show ((none : Option (List Int)), (0 : Int), false) = (nonNil [], 0, accO ([] : List Int)) from rfl, hd, hp]
        rfl
      · have hd := hloop.2 hp
        rw [show ((none : Option (List Int)), (0 : Int), false) = (nonNil [], 0, accO ([] : List Int)) from rfl, hd]
        rfl
    · simp only [c1, c2, decide_true, decide_false, cond_true, cond_false, Bool.not_true, Bool.not_false, whenE, Bool.false_eq_true, if_false, if_true, firstNZ]
      rfl
  · simp only [c1, decide_false, cond_false, Bool.not_false, whenE, if_true, firstNZ]
    rfl
end Go.Z
