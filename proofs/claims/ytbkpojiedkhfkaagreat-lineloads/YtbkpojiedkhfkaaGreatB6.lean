/-
  Work and schedules: the checks, both.
-/
import Derived.Test.YtbkpojiedkhfkaaGreatB3
import Derived.Test.YtbkpojiedkhfkaaGreatB5
set_option linter.unusedVariables false
set_option linter.unusedSimpArgs false
set_option maxRecDepth 100000
set_option linter.unusedSimpArgs false
set_option linter.unusedVariables false
namespace Go.Z
open Go Go.Abs
theorem f87_eq {o : Option (List Int)} (hl : (o.getD []).length ≤ 1073741824) : f87 o = some (firstNZ (o.getD [])) := by
  have key := itO_list (δ := Int ⊕ Int) (o.getD []) (s87_0 o) (fun i (_ : Unit) => (i : Int)) (fun _ _ x => if x = 0 then .inl () else .inr x) (fun _ => .inr ((o.getD []).length : Int)) (fun e => .inl e) (fun _ _ => True) () ?_ ?_ trivial
  · have hr := runL_first (fun x : Int => x) (o.getD []) 0
    rw [List.map_id'] at hr
    rw [hr, Int.natCast_zero] at key
    unfold f87
    rw [key]
    by_cases hz : firstNZ (o.getD []) = 0
    · simp [hz]
    · simp [hz]
  · intro s _
    unfold s87_0
    simp
  · intro i s x hx hi _
    have hlt : (i : Int) < ((o.getD []).length : Int) := by omega
    unfold s87_0
    by_cases hz : x = 0
    · simp only [hz, if_true, hlt, decide_true, cond_true, idxO_nat, hx, obind_at, wrap_nat (show i < 9223372036854775807 by omega)]
      exact ⟨trivial, trivial⟩
    · simp [hz, hlt, idxO_nat, hx]
theorem f147_eq (x : Int) : f147 x = some (checkRange x 1 100000) := rfl
theorem f135_eq {o : Option (List Int)} (hl : (o.getD []).length ≤ 1000) : ∃ own, f135 o = some (nonNil ((o.getD []).map fun x => checkRange x 1 100000), own) := by
  have key := itO_list (δ := Option (List Int) × Bool × Int) (ε := Empty) (o.getD []) (s135_0 o) (fun i (s : List Int) => (nonNil s, (i : Int), accO s)) (fun _ s x => .inl (s ++ [checkRange x 1 100000])) (fun s => (nonNil s, accO s, ((o.getD []).length : Int))) (fun d => nomatch d) (fun i s => s.length = i) [] ?_ ?_ rfl
  · have hr : runL (δ := Empty) (fun _ s x => .inl (s ++ [checkRange x 1 100000])) 0 [] (o.getD []) = .inl ((o.getD []).map fun x => checkRange x 1 100000) := by
      rw [show (fun (_ : Nat) (s : List Int) (x : Int) => (Sum.inl (s ++ [checkRange x 1 100000]) : List Int ⊕ Empty)) = fun _ s x => .inl ((fun (s : List Int) x => s ++ [checkRange x 1 100000]) s x) from rfl, runL_fold]
      congr 1
      have : ∀ (l s : List Int), l.foldl (fun s x => s ++ [checkRange x 1 100000]) s = s ++ l.map fun x => checkRange x 1 100000 := by
        intro l
        induction l with
        | nil => intro s; simp
        | cons y l ih => intro s; rw [List.foldl_cons, ih]; simp
      rw [this]; rfl
    rw [hr, Int.natCast_zero] at key
    unfold f135
    exact ⟨_, by rw [show ((none : Option (List Int)), (0 : Int), false) = (nonNil [], 0, accO ([] : List Int)) from rfl, key]; rfl⟩
  · intro s _
    unfold s135_0
    simp
  · intro i s x hx hi hs
    have hlt : (i : Int) < ((o.getD []).length : Int) := by omega
    refine ⟨by simp [hs], ?_⟩
    unfold s135_0
    simp only [hlt, decide_true, cond_true, idxO_nat, hx, obind_at, f147_eq, wrap_nat (show i < 9223372036854775807 by omega)]
    cases s with
    | nil => 
      simp only [nonNil, accO, List.isEmpty_nil, Bool.not_true, cond_false, Option.isNone_none, cond_true]
      rfl
    | cons y s =>
      have e : apO (some (y :: s)) [checkRange x 1 100000] = some (some ((y :: s) ++ [checkRange x 1 100000])) := ap_one _ _ (by omega)
      simp only [nonNil, accO, List.isEmpty_cons, Bool.not_false, cond_true, e, obind_at]
      rfl
theorem checkRange_or (n lo hi : Int) : checkRange n lo hi = 0 ∨ checkRange n lo hi = 3 := by
  unfold checkRange; split
  · exact .inr rfl
  · split
    · exact .inr rfl
    · exact .inl rfl
theorem first_eachZ (lo hi : Int) : ∀ l : List Int, firstNZ (l.map fun x => checkRange x lo hi) = checkEach lo hi l
  | [] => rfl
  | x :: l => by
    simp only [List.map_cons, firstNZ, checkEach]
    rcases checkRange_or x lo hi with h | h
    · rw [if_pos h, if_pos h, first_eachZ lo hi l]
    · rw [if_neg (by omega), if_neg (by omega), h]
def workE (w : List Int) (k : Int) : Int := firstNZ [whenE (decide ((8 : Int) < (w.length : Int))) 5, checkEach 1 100000 w, checkRange k 1 4]
theorem f125_eq {o : Option (List Int)} {k : Int} (hl : (o.getD []).length ≤ 1000) : f125 o k = some (workE (o.getD []) k) := by
  obtain ⟨own, h⟩ := f135_eq hl
  have h1 : f87 (nonNil ((o.getD []).map fun x => checkRange x 1 100000)) = some (checkEach 1 100000 (o.getD [])) := by
    rw [f87_eq (by rw [nonNil_getD, List.length_map]; omega), nonNil_getD, first_eachZ]
  unfold f125
  simp only [E24, h, obind_at, h1, E23]
  rw [f87_eq (by simp)]
  rfl
theorem f77_eq {o : Option (List Int)} {k : Int} (hl : (o.getD []).length ≤ 1000) : f77 o k = some (workE (o.getD []) k) := by
  unfold f77
  have e82 : E82 o 1 100000 = some (checkEach 1 100000 (o.getD [])) := exO_of (by omega)
  have e94 : ∀ a b c, E94 (some [a, b, c]) = some (firstNZ [a, b, c]) := fun a b c => exO_of ⟨by simp, by simp⟩
  simp only [E24, e82, obind_at, E23, e94]
  rfl
theorem workE_ok {w : List Int} {k : Int} (h : workE w k = 0) : WorkOk w ∧ 1 ≤ k ∧ k ≤ 4 := by
  unfold workE at h
  have h1 := whenE_zero (by decide) (firstNZ_zero h _ (List.mem_cons_self ..))
  have h2 := firstNZ_zero h _ (List.mem_cons_of_mem _ (List.mem_cons_self ..))
  have h3 := checkRange_zero (firstNZ_zero h _ (List.mem_cons_of_mem _ (List.mem_cons_of_mem _ (List.mem_cons_self ..))))
  simp only [decide_eq_false_iff_not] at h1
  exact ⟨⟨by omega, fun x hx => (checkEach_zero h2 x hx).1, fun x hx => (checkEach_zero h2 x hx).2⟩, h3⟩
def badX (k x : Int) : Bool := decide (x < 0) || decide (k ≤ x)
theorem f128_eq (x k : Int) : f128 x k = some (badX k x) := by
  unfold f128 badX
  by_cases h : x < 0
  · simp [h]
  · simp [h]
theorem itO_allQ {α ε : Type} (l : List α) (f : Int → Option (Int ⊕ (ε ⊕ Int))) (P : Nat → α → Prop) (Q : ε → Prop)
    (hend : f (l.length : Int) = some (.inr (.inr (l.length : Int))))
    (hstep : ∀ (i : Nat) (x : α), l[i]? = some x → (f (i : Int) = some (.inl ((i + 1 : Nat) : Int)) ∧ P i x) ∨ ∃ e, f (i : Int) = some (.inr (.inl e)) ∧ Q e ∧ ¬ P i x) :
    (∃ e, itO f 0 = some (.inl e) ∧ Q e ∧ ∃ (i : Nat) (x : α), l[i]? = some x ∧ ¬ P i x) ∨ (itO f 0 = some (.inr (l.length : Int)) ∧ ∀ (i : Nat) (x : α), l[i]? = some x → P i x) := by
  have key : ∀ (k i : Nat), i + k = l.length → (∀ (j : Nat) (x : α), j < i → l[j]? = some x → P j x) →
      (∃ e, itO f (i : Int) = some (.inl e) ∧ Q e ∧ ∃ (i : Nat) (x : α), l[i]? = some x ∧ ¬ P i x) ∨ (itO f (i : Int) = some (.inr (l.length : Int)) ∧ ∀ (i : Nat) (x : α), l[i]? = some x → P i x) := by
    intro k
    induction k with
    | zero =>
      intro i hi hp
      have : i = l.length := by omega
      subst this
      exact .inr ⟨itO_out hend, fun j x hx => hp j x (List.getElem?_eq_some_iff.1 hx).1 hx⟩
    | succ k ih =>
      intro i hi hp
      obtain ⟨x, hx⟩ : ∃ x, l[i]? = some x := ⟨_, List.getElem?_eq_getElem (by omega)⟩
      rcases hstep i x hx with ⟨h1, h2⟩ | ⟨e, h1, h2, h3⟩
      · rw [itO_in h1]
        refine ih (i + 1) (by omega) fun j y hj hy => ?_
        by_cases hji : j = i
        · subst hji; rw [hx] at hy; cases hy; exact h2
        · exact hp j y (by omega) hy
      · exact .inl ⟨e, itO_out h1, h2, i, x, hx, h3⟩
  exact key l.length 0 (by omega) fun j x hj => absurd hj (by omega)
theorem f127_eq {o : Option (List Int)} {k : Int} (hl : (o.getD []).length ≤ 1000) : f127 o k = some ((o.getD []).any (badX k)) := by
  unfold f127 f148
  rcases itO_allQ (o.getD []) (s148_0 o k) (fun _ x => badX k x = false) (fun e => 0 ≤ e) (by unfold s148_0; simp) (by
    intro i x hx
    have hi := (List.getElem?_eq_some_iff.1 hx).1
    have hlt : (i : Int) < ((o.getD []).length : Int) := by omega
    unfold s148_0
    simp only [hlt, decide_true, cond_true, idxO_nat, hx, obind_at, f128_eq, wrap_nat (show i < 9223372036854775807 by omega)]
    cases hb : badX k x with
    | true => exact .inr ⟨_, rfl, by omega, by simp⟩
    | false => exact .inl ⟨rfl, rfl⟩) with ⟨e, h1, h2, i, x, hx, h3⟩ | ⟨h1, h2⟩
  · rw [h1]
    have : (o.getD []).any (badX k) = true := List.any_eq_true.2 ⟨x, List.mem_of_getElem? hx, by simpa using h3⟩
    simp [this, h2]
  · rw [h1]
    have : (o.getD []).any (badX k) = false := by
      rw [List.any_eq_false]
      intro x hx
      obtain ⟨i, hi⟩ := List.getElem?_of_mem hx
      simp [h2 i x hi]
    simp [this]
theorem each_bad {k : Int} {l : List Int} (h : l.any (badX k) = false) : ∀ x ∈ l, 0 ≤ x ∧ x < k := by
  intro x hx
  have := List.any_eq_false.1 h x hx
  simp only [badX, Bool.not_eq_true, Bool.or_eq_false_iff, decide_eq_false_iff_not] at this
  omega
def schE (w : List Int) (k : Int) (l : List Int) : Int := if l.length = w.length then (if l.any (badX k) = true then 10 else 0) else 2
theorem f75_eq {ow ol : Option (List Int)} {k : Int} (hw : (ow.getD []).length ≤ 1000) (hl : (ol.getD []).length ≤ 1000) :
    f75 ow k ol = some (if workE (ow.getD []) k = 0 then (if schE (ow.getD []) k (ol.getD []) = 0 then (endS (ow.getD []) (ol.getD []), 0) else (0, schE (ow.getD []) k (ol.getD []))) else (0, workE (ow.getD []) k)) := by
  unfold f75
  have e94 : ∀ a b, f87 (some [a, b]) = some (firstNZ [a, b]) := fun a b => f87_eq (by simp)
  simp only [f125_eq hw, obind_at, E24, e94]
  by_cases hz : workE (ow.getD []) k = 0
  · obtain ⟨hwo, hk1, hk4⟩ := workE_ok hz
    simp only [hz, firstNZ, if_true]
    unfold schE
    by_cases he : (ol.getD []).length = (ow.getD []).length
    · have he' : ((ol.getD []).length : Int) = ((ow.getD []).length : Int) := by omega
      simp only [he', decide_true, Bool.not_true, whenE, if_true, cond_true, f127_eq hl, obind_at, he]
      cases hb : (ol.getD []).any (badX k) with
      | true => simp
      | false =>
        have hx := each_bad hb
        simp [f129_eq (ow := ow) (ol := ol) rfl rfl hwo (by omega) (fun x h => by have := hx x h; omega)]
    · have he' : ¬ ((ol.getD []).length : Int) = ((ow.getD []).length : Int) := by omega
      simp [he, he', whenE]
  · simp [hz, firstNZ]
theorem f74_eq {ow : Option (List Int)} {k : Int} (hw : (ow.getD []).length ≤ 1000) (hne : ow.getD [] ≠ []) :
    f74 ow k = some (if workE (ow.getD []) k = 0 then (some (bestR (ow.getD []) k.toNat (ow.getD []).length []).1, (bestR (ow.getD []) k.toNat (ow.getD []).length []).2, 0) else (none, 0, workE (ow.getD []) k)) := by
  unfold f74
  simp only [f125_eq hw, obind_at]
  by_cases hz : workE (ow.getD []) k = 0
  · obtain ⟨hwo, hk1, hk4⟩ := workE_ok hz
    obtain ⟨n, rfl⟩ : ∃ n : Nat, k = (n : Int) := ⟨k.toNat, by omega⟩
    have hlen := hwo.len
    have hpos := List.length_pos_iff.2 hne
    obtain ⟨own, h⟩ := f126_eq (k := n) (ow := ow) rfl hwo (by omega) (by omega) (ow.getD []).length 10 none none false (by omega) (by simp) (by omega) (by simp)
    have hu : upd none (bestR (ow.getD []) n (ow.getD []).length []) = some (bestR (ow.getD []) n (ow.getD []).length []) := rfl
    simp only [Option.getD_none, hu, Option.map_some, Option.map_none, finS] at h
    simp only [hz, decide_true, cond_true, h, obind_at, if_true, Int.toNat_natCast]
  · simp [hz]
theorem f74_nil {ow : Option (List Int)} {k : Int} (hne : ow.getD [] = []) : f74 ow k = some (none, 0, workE [] k) := by
  unfold f74
  simp only [f125_eq (o := ow) (k := k) (by rw [hne]; simp), obind_at, hne]
  by_cases hz : workE [] k = 0
  · have hwo : WorkOk [] := (workE_ok hz).1
    have e129 : f129 ow none = some (endS [] []) := f129_eq hne rfl hwo (by simp) (by simp)
    have : f126 10 none ow k none false 0 = some (none, 0, false) := by
      show F126 (f126 9) none ow k none false 0 = _
      unfold F126
      simp only [Option.isNone_none, cond_true, hne, Option.getD_none, decide_true, E142n, if_true, obind_at, e129]
      rfl
    simp [hz, this]
  · simp [hz]
end Go.Z
