/-
  LinePairs: the search that leaves out what cannot be better finds the best of all.
-/
import Derived.Test.YtbkpojiedkhfkaaGreatQ1
set_option linter.unusedVariables false
set_option linter.unusedSimpArgs false
set_option maxRecDepth 100000
set_option linter.unusedSimpArgs false
set_option linter.unusedVariables false
namespace Go.Z
open Go Go.Abs
theorem ap_app {α : Type} (l m : List α) (h : l.length + m.length ≤ 1073741824) : apO (some l) m = some (some (l ++ m)) := by
  unfold apO apS
  simp [h]
theorem f139_two {x y : Option (List Int)} (hx : (x.getD []).length ≤ 1000) (hy : (y.getD []).length ≤ 1000) : ∃ r, f139 (some [x, y]) = some r ∧ r.1.getD [] = x.getD [] ++ y.getD [] := by
  have w1 : wrapF .i64 ((0 : Int) + ((x.getD []).length : Int)) = ((x.getD []).length : Int) := by rw [wrapF_i64 (by omega) (by omega)]; omega
  have w2 : wrapF .i64 (((x.getD []).length : Int) + ((y.getD []).length : Int)) = ((x.getD []).length : Int) + ((y.getD []).length : Int) := wrapF_i64 (by omega) (by omega)
  have i1 : wrapF .i64 ((0 : Int) + 1) = 1 := by decide
  have i2 : wrapF .i64 ((1 : Int) + 1) = 2 := by decide
  have n1 : ¬ ((x.getD []).length : Int) < 0 := by omega
  have n2 : ¬ ((x.getD []).length : Int) + ((y.getD []).length : Int) < 0 := by omega
  have g0 : idxO [x, y] 0 = some x := rfl
  have g1 : idxO [x, y] 1 = some y := rfl
  have l0 : decide ((0 : Int) < (([x, y] : List (Option (List Int))).length : Int)) = true := rfl
  have l1 : decide ((1 : Int) < (([x, y] : List (Option (List Int))).length : Int)) = true := rfl
  have l2 : decide ((2 : Int) < (([x, y] : List (Option (List Int))).length : Int)) = false := rfl
  have a0 : s139_0 (some [x, y]) (0, 0) = some (.inl (((x.getD []).length : Int), 1)) := by
    unfold s139_0
    simp only [Option.getD_some, l0, cond_true, g0, obind_at, w1, i1, n1, decide_false, cond_false]
  have a1 : s139_0 (some [x, y]) (((x.getD []).length : Int), 1) = some (.inl (((x.getD []).length : Int) + ((y.getD []).length : Int), 2)) := by
    unfold s139_0
    simp only [Option.getD_some, l1, cond_true, g1, obind_at, w2, i2, n2, decide_false, cond_false]
  have a2 : s139_0 (some [x, y]) (((x.getD []).length : Int) + ((y.getD []).length : Int), 2) = some (.inr (((x.getD []).length : Int) + ((y.getD []).length : Int), 2)) := by
    unfold s139_0
    simp only [Option.getD_some, l2, cond_false]
  unfold f139
  rw [itO_in a0, itO_in a1, itO_out a2]
  have e152 : E152 none (((x.getD []).length : Int) + ((y.getD []).length : Int)) = some (if ((x.getD []).length : Int) + ((y.getD []).length : Int) = 0 then (none, false) else (some [], true)) := exO_of ⟨rfl, by omega, by omega⟩
  simp only [obind_at, e152]
  have b2 : ∀ s b, s139_1 (some [x, y]) (s, 2, b) = some (.inr (s, b, 2)) := by
    intro s b
    unfold s139_1
    simp only [Option.getD_some, l2, cond_false]
  by_cases hz : ((x.getD []).length : Int) + ((y.getD []).length : Int) = 0
  · have hx0 : x.getD [] = [] := List.length_eq_zero_iff.1 (by omega)
    have hy0 : y.getD [] = [] := List.length_eq_zero_iff.1 (by omega)
    have an : apO (none : Option (List Int)) [] = some none := rfl
    have b0 : s139_1 (some [x, y]) (none, 0, false) = some (.inl (none, 1, true)) := by
      unfold s139_1
      simp only [Option.getD_some, l0, cond_true, g0, obind_at, hx0, an, Option.isNone_none, i1, cond_false]
    have b1 : s139_1 (some [x, y]) (none, 1, true) = some (.inl (none, 2, true)) := by
      unfold s139_1
      simp only [Option.getD_some, l1, cond_true, g1, obind_at, hy0, an, i2]
    rw [if_pos hz, itO_in b0, itO_in b1, itO_out (b2 _ _)]
    exact ⟨_, rfl, by rw [hx0, hy0]; rfl⟩
  · have b0 : s139_1 (some [x, y]) (some [], 0, true) = some (.inl (some (x.getD []), 1, true)) := by
      unfold s139_1
      simp only [Option.getD_some, l0, cond_true, g0, obind_at, ap_app [] _ (show ([] : List Int).length + (x.getD []).length ≤ 1073741824 by simp; omega), List.nil_append, i1]
    have b1 : s139_1 (some [x, y]) (some (x.getD []), 1, true) = some (.inl (some (x.getD [] ++ y.getD []), 2, true)) := by
      unfold s139_1
      simp only [Option.getD_some, l1, cond_true, g1, obind_at, ap_app _ _ (show (x.getD []).length + (y.getD []).length ≤ 1073741824 by omega), i2]
    rw [if_neg hz, itO_in b0, itO_in b1, itO_out (b2 _ _)]
    exact ⟨_, rfl, rfl⟩
def RelB (st : Option PSch) (best : Option (List GPair)) (worst : Int) (found : Bool) : Prop := match st with
  | none => found = false ∧ worst = 0 ∧ best = none
  | some s => found = true ∧ best.getD [] = s.1 ∧ worst = s.2
theorem cut_lh {l : List Int} {k : Nat} (h1 : 1 ≤ k) (h : k ≤ l.length) : ∃ r, cutSO (some l) (some 1) (some (k : Int)) = some r ∧ r.getD [] = l.tail.take (k - 1) := by
  refine ⟨some ((l.take k).drop 1), ?_, ?_⟩
  · unfold cutSO cutO bndI
    have h2 : (1 : Int) ≤ (k : Int) := by omega
    simp [h]
    rw [if_pos h2]
    simp
  · cases l with
    | nil => simp
    | cons a l =>
      obtain ⟨j, rfl⟩ : ∃ j, k = j + 1 := ⟨k - 1, by omega⟩
      simp
theorem cut_l {l : List Int} {k : Nat} (h1 : 1 ≤ k) (h : k < l.length) : ∃ r, cutSO (some l) (some ((k + 1 : Nat) : Int)) none = some r ∧ r.getD [] = l.tail.drop k := by
  refine ⟨some ((l.take l.length).drop (k + 1)), ?_, ?_⟩
  · unfold cutSO cutO bndI
    simp only [Option.getD_some]
    have : (0 : Int) ≤ ((k + 1 : Nat) : Int) ∧ ((k + 1 : Nat) : Int) ≤ (l.length : Int) := by omega
    simp only [this, and_self, if_true, Option.map_some, Int.toNat_natCast]
  · cases l with
    | nil => simp
    | cons a l => simp
section
variable {l : List GUnit} {o : Option (List GUnit)} {rec : (Option (List Int)) → (Option (List GPair)) → (Option (List GUnit)) → (Option (List GPair)) → Bool → Int → Bool → Option ((Option (List GPair)) × Int × Bool × Bool)}
def RecOk (l : List GUnit) (o : Option (List GUnit)) (m : Nat) (rec : (Option (List Int)) → (Option (List GPair)) → (Option (List GUnit)) → (Option (List GPair)) → Bool → Int → Bool → Option ((Option (List GPair)) × Int × Bool × Bool)) : Prop :=
  ∀ (ol : Option (List Int)) (op : Option (List GPair)) (st : Option PSch) (best : Option (List GPair)) (own : Bool) (worst : Int) (found : Bool), LeftOk l.length (ol.getD []) → (ol.getD []).length = 2 * m → PairsIn l.length (op.getD []) → (op.getD []).length + m ≤ 100 → RelB st best worst found →
    ∃ best' own' worst' found', rec ol op o best own worst found = some (best', worst', found', own') ∧ RelB (updG st (bestP l m (ol.getD []) (op.getD []))) best' worst' found'
theorem step111 {m : Nat} (hrec : RecOk l o m rec) {left : List Int} {op : Option (List GPair)} (hk : LeftOk l.length left) (hl : left.length = 2 * (m + 1)) (hp : PairsIn l.length (op.getD [])) (hpl : (op.getD []).length + (m + 1) ≤ 100)
    {i : Nat} (hi : i < left.tail.length) {st : Option PSch} {best : Option (List GPair)} {own : Bool} {worst : Int} {found : Bool} (hr : RelB st best worst found) :
    ∃ best' own' worst' found', s111_0 (some left) op o rec (left.headD 0) (((i + 1 : Nat) : Int), best, worst, found, own) = some (.inl (((i + 2 : Nat) : Int), best', worst', found', own')) ∧
      RelB (updG st (bestP l m (left.tail.filter fun x => x != left.tail[i]) (op.getD [] ++ [⟨left.headD 0, left.tail[i]⟩]))) best' worst' found' := by
  have htl : left.tail.length = left.length - 1 := List.length_tail
  obtain ⟨c1, hc1, hg1⟩ := cut_lh (l := left) (k := i + 1) (by omega) (by omega)
  obtain ⟨c2, hc2, hg2⟩ := cut_l (l := left) (k := i + 1) (by omega) (by omega)
  have hlt : ((i + 1 : Nat) : Int) < (left.length : Int) := by omega
  have hw : wrapF .i64 (((i + 1 : Nat) : Int) + 1) = ((i + 1 + 1 : Nat) : Int) := by rw [wrapF_i64 (by omega) (by omega)]; omega
  obtain ⟨r, h139, hrest⟩ := f139_two (x := c1) (y := c2) (by rw [hg1, List.length_take]; omega) (by rw [hg2, List.length_drop]; omega)
  have hrest' : r.1.getD [] = left.tail.filter fun x => x != left.tail[i] := by
    rw [hrest, hg1, hg2, ← filter_ne hk.tail hi]; rfl
  have hb : left.tail[i] ∈ left.tail := List.getElem_mem hi
  have hidx : idxO left ((i + 1 : Nat) : Int) = some left.tail[i] := by
    rw [idxO_nat]
    cases left with
    | nil => simp at hi
    | cons a t => simp at hi ⊢
  have hrec' : ∀ op' : Option (List GPair), op'.getD [] = op.getD [] ++ [⟨left.headD 0, left.tail[i]⟩] → ∃ best' own' worst' found', rec r.1 op' o best own worst found = some (best', worst', found', own') ∧ RelB (updG st (bestP l m (left.tail.filter fun x => x != left.tail[i]) (op.getD [] ++ [⟨left.headD 0, left.tail[i]⟩]))) best' worst' found' := by
    intro op' he
    have := hrec r.1 op' st best own worst found (by rw [hrest']; exact hk.next _) (by rw [hrest']; exact next_len hk hl hb) (by rw [he]; exact pairs_in hk hp hb) (by rw [he]; simp; omega) hr
    rw [hrest', he] at this
    exact this
  unfold s111_0
  simp only [Option.getD_some, hlt, decide_true, cond_true, hc1, obind_at, hw, hc2, h139, hidx]
  cases op with
  | none =>
    obtain ⟨b', o', w', f', e1, e2⟩ := hrec' (some [⟨left.headD 0, left.tail[i]⟩]) rfl
    refine ⟨b', o', w', f', ?_, e2⟩
    simp only [Option.isNone_none, cond_true, E138n, if_true, obind_at, e1]
  | some p =>
    have e138 : E138 (some p) = some (some p) := exO_of ⟨by simp at hpl ⊢; omega, by simp⟩
    obtain ⟨b', o', w', f', e1, e2⟩ := hrec' (some (p ++ [⟨left.headD 0, left.tail[i]⟩])) rfl
    refine ⟨b', o', w', f', ?_, e2⟩
    simp only [Option.isNone_some, cond_false, e138, obind_at, ap_one p _ (show p.length + 1 ≤ 1073741824 by simp at hpl; omega), e1]
theorem loop111 {m : Nat} (hrec : RecOk l o m rec) {left : List Int} {op : Option (List GPair)} (hk : LeftOk l.length left) (hl : left.length = 2 * (m + 1)) (hp : PairsIn l.length (op.getD [])) (hpl : (op.getD []).length + (m + 1) ≤ 100) :
    ∀ (j i : Nat) (st : Option PSch) (best : Option (List GPair)) (own : Bool) (worst : Int) (found : Bool), i + j = left.tail.length → RelB st best worst found →
      ∃ best' own' worst' found', itO (s111_0 (some left) op o rec (left.headD 0)) (((i + 1 : Nat) : Int), best, worst, found, own) = some ((left.length : Int), best', own', worst', found') ∧
        RelB ((left.tail.drop i).foldl (fun st b => updG st (bestP l m (left.tail.filter fun x => x != b) (op.getD [] ++ [⟨left.headD 0, b⟩]))) st) best' worst' found'
  | 0, i, st, best, own, worst, found, hi, hr => by
    have htl : left.tail.length = left.length - 1 := List.length_tail
    have e : ((i + 1 : Nat) : Int) = (left.length : Int) := by omega
    have hd : left.tail.drop i = [] := List.drop_eq_nil_of_le (by omega)
    refine ⟨best, own, worst, found, ?_, by rw [hd]; exact hr⟩
    rw [e]
    refine itO_out ?_
    unfold s111_0
    simp
  | j + 1, i, st, best, own, worst, found, hi, hr => by
    have hil : i < left.tail.length := by omega
    obtain ⟨b1, o1, w1, f1, e1, r1⟩ := step111 hrec hk hl hp hpl hil (own := own) hr
    obtain ⟨b2, o2, w2, f2, e2, r2⟩ := loop111 hrec hk hl hp hpl j (i + 1) _ b1 o1 w1 f1 (by omega) r1
    refine ⟨b2, o2, w2, f2, ?_, ?_⟩
    · rw [itO_in e1]; exact e2
    · rw [List.drop_eq_getElem_cons hil, List.foldl_cons]; exact r2
theorem f111_eq (hu : UnitsOk l) (ho : o.getD [] = l) : ∀ (m n : Nat), m < n → RecOk l o m (f111 n)
  | 0, n + 1, _ => by
    intro ol op st best own worst found hk hl hp hpl hr
    have h0 : (ol.getD []).length = 0 := by omega
    have hv := f122_eq ho rfl hu hp (by omega)
    have hz : ((ol.getD []).length : Int) = 0 := by omega
    have hend : ∃ b' o', (cond op.isNone (obind (E138n op) fun _ => some (none, worstP l (op.getD []), true, false)) (obind (E138 op) fun v9 => some (v9, worstP l (op.getD []), true, true))) = some (b', worstP l (op.getD []), true, o') ∧ (b' : Option (List GPair)).getD [] = op.getD [] := by
      cases op with
      | none => exact ⟨none, false, by simp only [Option.isNone_none, cond_true, E138n, if_true, obind_at], rfl⟩
      | some p =>
        have e138 : E138 (some p) = some (some p) := exO_of ⟨by simp at hpl ⊢; omega, by simp⟩
        exact ⟨some p, true, by simp only [Option.isNone_some, cond_false, e138, obind_at], rfl⟩
    obtain ⟨b', o', he, hb⟩ := hend
    show ∃ best' own' worst' found', F111 (f111 n) ol op o best own worst found = _ ∧ _
    unfold F111
    simp only [hv, obind_at, hz, decide_true, cond_true]
    cases st with
    | none =>
      obtain ⟨rfl, rfl, rfl⟩ := hr
      refine ⟨b', o', worstP l (op.getD []), true, ?_, rfl, hb, rfl⟩
      simp only [cond_false]
      exact he
    | some s =>
      obtain ⟨rfl, hbs, rfl⟩ := hr
      simp only [cond_true]
      by_cases hge : s.2 ≤ worstP l (op.getD [])
      · refine ⟨best, own, s.2, true, by simp only [hge, decide_true, cond_true], ?_⟩
        have : updG (some s) (bestP l 0 (ol.getD []) (op.getD [])) = some s := by
          unfold updG bestP; simp only []; rw [if_neg (by omega)]
        rw [this]
        exact ⟨rfl, hbs, rfl⟩
      · refine ⟨b', o', worstP l (op.getD []), true, ?_, ?_⟩
        · simp only [hge, decide_false, cond_false]
          exact he
        · have : updG (some s) (bestP l 0 (ol.getD []) (op.getD [])) = some (op.getD [], worstP l (op.getD [])) := by
            unfold updG bestP; simp only []; rw [if_pos (by omega)]
          rw [this]
          exact ⟨rfl, hb, rfl⟩
  | m + 1, n + 1, hmn => by
    intro ol op st best own worst found hk hl hp hpl hr
    have hv := f122_eq ho rfl hu hp (by omega)
    obtain ⟨left, rfl⟩ : ∃ left, ol = some left := by
      cases ol with
      | none => simp at hl
      | some x => exact ⟨x, rfl⟩
    simp only [Option.getD_some] at hk hl ⊢
    have hz : ¬ (left.length : Int) = 0 := by omega
    have hrec := f111_eq hu ho m n (by omega)
    have hidx : idxO left 0 = some (left.headD 0) := by
      cases left with
      | nil => simp at hl
      | cons a t => rfl
    have hfold := bestP_fold (l := l) (p := op.getD []) hl st
    obtain ⟨b', o', w', f', e1, r1⟩ := loop111 hrec hk hl hp hpl left.tail.length 0 st best own worst found (by omega) hr
    rw [List.drop_zero, hfold] at r1
    show ∃ best' own' worst' found', F111 (f111 n) (some left) op o best own worst found = _ ∧ _
    unfold F111
    simp only [hv, obind_at, Option.getD_some, hz, decide_false, cond_false, hidx]
    have e1' : itO (s111_0 (some left) op o (f111 n) (left.headD 0)) (1, best, worst, found, own) = some ((left.length : Int), b', o', w', f') := e1
    cases st with
    | none =>
      obtain ⟨rfl, rfl, rfl⟩ := hr
      refine ⟨b', o', w', f', ?_, r1⟩
      simp only [cond_false]
      rw [show s111_0b = s111_0 from rfl, e1']
      rfl
    | some s =>
      obtain ⟨rfl, hbs, rfl⟩ := hr
      simp only [cond_true]
      by_cases hge : s.2 ≤ worstP l (op.getD [])
      · refine ⟨best, own, s.2, true, by simp only [hge, decide_true, cond_true], ?_⟩
        have hlow := bestP_low hu (m + 1) left (op.getD []) hk hl
        have : updG (some s) (bestP l (m + 1) left (op.getD [])) = some s := by
          unfold updG; simp only []; rw [if_neg (by omega)]
        rw [this]
        exact ⟨rfl, hbs, rfl⟩
      · refine ⟨b', o', w', f', ?_, r1⟩
        simp only [hge, decide_false, cond_false]
        rw [e1']
        rfl
end
end Go.Z
