/-
  LineProofs: both searches find the same set.
-/
import Derived.Test.YtbkpojiedkhfkaaGreatK3
import Derived.Test.YtbkpojiedkhfkaaGreatV6
import Derived.Test.YtbkpojiedkhfkaaGreatV7
import Derived.Test.YtbkpojiedkhfkaaGreatQ3
set_option linter.unusedVariables false
set_option linter.unusedSimpArgs false
set_option maxRecDepth 100000
set_option linter.unusedSimpArgs false
set_option linter.unusedVariables false
namespace Go.Z
open Go Go.Abs
def fromOf (set : List Int) : Int := match set.getLast? with
  | none => 0
  | some x => x + 1
theorem fromOf_snoc (set : List Int) (x : Int) : fromOf (set ++ [x]) = x + 1 := by unfold fromOf; simp
def SameF (r : Found) (x : Option (List Int)) (b : Bool) : Prop := match r with
  | none => b = false
  | some y => b = true ∧ y.getD [] = x.getD []
section
variable {l l' : List GUnit} {o o' : Option (List GUnit)} {below : Int}
theorem clO_of {a : Option (List Int)} (h : (a.getD []).length ≤ 1000) : clO a = some a := exO_of (by omega)
theorem grow_of {a : Option (List Int)} {set : List Int} {i : Int} (h : a.getD [] = set) (hs : set.length ≤ 1000) : ∃ s', apO a [i] = some s' ∧ s'.getD [] = set ++ [i] := by
  cases a with
  | none => 
    have : set = [] := h.symm
    subst this
    exact ⟨some [i], rfl, rfl⟩
  | some x =>
    have : x = set := h
    subst this
    exact ⟨some (x ++ [i]), ap_one x i (by omega), rfl⟩
theorem loop_sets {n : Nat} {size : Int} {set : List Int} {a3 set' : Option (List Int)} {recS : RecS} {recC : (Option (List GUnit)) → Int → Int → (Option (List Int)) → Option ((Option (List Int)) × Bool)} (hn : (o.getD []).length = n) (hn64 : n ≤ 64) (h3 : a3.getD [] = set) (h' : set'.getD [] = set) (hs : set.length ≤ 64)
    (hrec : ∀ (i : Nat) (c c' : Option (List Int)), i < n → c.getD [] = set ++ [(i : Int)] → c'.getD [] = set ++ [(i : Int)] → ∃ r x b, recS c' ((i + 1 : Nat) : Int) = some r ∧ recC o below size c = some (x, b) ∧ SameF r x b) :
    ∀ (j i : Nat), i + j = n → ∃ r d, itO (s141 recS (n : Int) set') (i : Int) = some r ∧ itO (s120_0 o below size a3 recC) (i : Int) = some d ∧ (match r with
      | none => ∃ z, d = .inr z
      | some y => ∃ x, d = .inl x ∧ y.getD [] = x.getD [])
  | 0, i, hi => by
    have : i = n := by omega
    subst this
    refine ⟨none, .inr (i : Int), itO_out (by unfold s141; simp), itO_out (by unfold s120_0; simp [hn]), _, rfl⟩
  | j + 1, i, hi => by
    have hlt : (i : Int) < (n : Int) := by omega
    have hw : wrapF .i64 ((i : Int) + 1) = ((i + 1 : Nat) : Int) := wrap_nat (by omega)
    obtain ⟨c', g1, g2⟩ := grow_of (i := (i : Int)) h' (by omega)
    have g3 : apO (some []) set = some (some set) := ap_nil set (by omega)
    have g4 : apO (some set) [(i : Int)] = some (some (set ++ [(i : Int)])) := ap_one set _ (by omega)
    obtain ⟨r, x, b, e1, e2, e3⟩ := hrec i (some (set ++ [(i : Int)])) c' (by omega) rfl g2
    have hc := clO_of (a := set') (by rw [h']; omega)
    have hlt2 : (i : Int) < ((o.getD []).length : Int) := by omega
    cases r with
    | none =>
      have hb : b = false := e3
      subst hb
      have s1 : s141 recS (n : Int) set' (i : Int) = some (.inl ((i + 1 : Nat) : Int)) := by
        unfold s141
        simp only [hlt, decide_true, cond_true, hc, obind_at, g1, hw, e1]
      have s2 : s120_0 o below size a3 recC (i : Int) = some (.inl ((i + 1 : Nat) : Int)) := by
        unfold s120_0
        simp only [hlt2, decide_true, cond_true, h3, g3, obind_at, g4, e2, cond_false, hw]
      rw [itO_in s1, itO_in s2]
      exact loop_sets hn hn64 h3 h' hs hrec j (i + 1) (by omega)
    | some y =>
      obtain ⟨hb, hy⟩ : b = true ∧ y.getD [] = x.getD [] := e3
      subst hb
      refine ⟨some y, .inl x, itO_out ?_, itO_out ?_, x, rfl, hy⟩
      · unfold s141
        simp only [hlt, decide_true, cond_true, hc, obind_at, g1, hw, e1]
      · unfold s120_0
        simp only [hlt2, decide_true, cond_true, h3, g3, obind_at, g4, e2]
theorem sets_same (ho : o.getD [] = l) (ho' : o'.getD [] = l') (hll : l'.length = l.length) (hnear : near l' below = near l below) (hu : UnitsOk l) (hu' : UnitsOk l') (hl : l.length ≤ 64) {size : Nat} (hsz : size ≤ 64) : ∀ (m k k' : Nat) (a3 set' : Option (List Int)) (set : List Int), a3.getD [] = set → set'.getD [] = set → set.length + m = size → m < k → m < k' → (∀ x ∈ set, 0 ≤ x ∧ x < (l.length : Int)) →
    ∃ r x b, f141 o' below (l.length : Int) (size : Int) k set' (fromOf set) = some r ∧ f120 k' o below (size : Int) a3 = some (x, b) ∧ SameF r x b
  | m, k + 1, k' + 1, a3, set', set, h3, h', hm, hk, hk', hb => by
    show ∃ r x b, F141 o' below (l.length : Int) (size : Int) (f141 o' below (l.length : Int) (size : Int) k) set' (fromOf set) = some r ∧ F120 (f120 k') o below (size : Int) a3 = some (x, b) ∧ SameF r x b
    cases m with
    | zero =>
      have he : (set.length : Int) = (size : Int) := by omega
      obtain ⟨c, c1, c2⟩ := odd_same (below := below) ho ho' hll hnear hu hu' hl h3 h' (by omega)
      have hc := clO_of (a := set') (by rw [h']; omega)
      refine ⟨bif decide ((set.length : Int) < c) then some set' else none, a3, decide ((size : Int) < c), ?_, ?_, ?_⟩
      · unfold F141
        simp only [h', he, decide_true, cond_true, hc, obind_at, c2]
      · unfold F120
        simp only [h3, he, decide_true, cond_true, c1, obind_at]
      · rw [he]
        cases decide ((size : Int) < c) with
        | true => exact ⟨rfl, by rw [h', h3]⟩
        | false => exact rfl
    | succ m =>
      have hne : ¬ (set.length : Int) = (size : Int) := by omega
      have hrec : ∀ (i : Nat) (c c' : Option (List Int)), i < l.length → c.getD [] = set ++ [(i : Int)] → c'.getD [] = set ++ [(i : Int)] → ∃ r x b, f141 o' below (l.length : Int) (size : Int) k c' ((i + 1 : Nat) : Int) = some r ∧ f120 k' o below (size : Int) c = some (x, b) ∧ SameF r x b := by
        intro i c c' hi hc hc'
        have := sets_same ho ho' hll hnear hu hu' hl hsz m k k' c c' (set ++ [(i : Int)]) hc hc' (by rw [List.length_append, List.length_singleton]; omega) (by omega) (by omega) (fun x hx => by
          rcases List.mem_append.1 hx with h | h
          · exact hb x h
          · rw [List.mem_singleton.1 h]; omega)
        rw [fromOf_snoc] at this
        exact this
      obtain ⟨f, hf0, hfn⟩ : ∃ f : Nat, fromOf set = (f : Int) ∧ f ≤ l.length := by
        unfold fromOf
        cases hg : set.getLast? with
        | none => exact ⟨0, rfl, by omega⟩
        | some x =>
          have := hb x (List.mem_of_getLast? hg)
          exact ⟨(x + 1).toNat, by simp only []; omega, by omega⟩
      obtain ⟨r, d, e1, e2, e3⟩ := loop_sets (o := o) (below := below) (a3 := a3) (set' := set') (recS := f141 o' below (l.length : Int) (size : Int) k) (recC := f120 k') (by rw [ho]) hl h3 h' (by omega) hrec (l.length - f) f (by omega)
      have h141 : F141 o' below (l.length : Int) (size : Int) (f141 o' below (l.length : Int) (size : Int) k) set' (fromOf set) = some r := by
        unfold F141
        simp only [h', hne, decide_false, cond_false, hf0, e1]
      have h120 : F120 (f120 k') o below (size : Int) a3 = (match d with
          | .inl x => some (x, true)
          | .inr _ => some (none, false)) := by
        unfold F120
        simp only [h3, hne, decide_false, cond_false]
        by_cases hs0 : (0 : Int) < (set.length : Int)
        · have hw : wrapF .i64 ((set.length : Int) - 1) = ((set.length - 1 : Nat) : Int) := by rw [wrapF_i64 (by omega) (by omega)]; omega
          have hidx : idxO set ((set.length - 1 : Nat) : Int) = some (set[set.length - 1]'(by omega)) := by rw [idxO_nat, List.getElem?_eq_getElem (by omega)]
          have hfr : fromOf set = set[set.length - 1]'(by omega) + 1 := by
            unfold fromOf
            rw [List.getLast?_eq_getElem?, List.getElem?_eq_getElem (by omega)]
          have hbl := hb (set[set.length - 1]'(by omega)) (List.getElem_mem _)
          have hw2 : wrapF .i64 (set[set.length - 1]'(by omega) + 1) = (f : Int) := by rw [wrapF_i64 (by omega) (by omega), ← hfr, hf0]
          simp only [hs0, decide_true, cond_true, hw, hidx, obind_at, hw2, e2]
          cases d <;> rfl
        · have hs : set = [] := List.length_eq_zero_iff.1 (by omega)
          have hf : (f : Int) = 0 := by rw [← hf0, hs]; rfl
          rw [hf] at e2
          simp only [hs0, decide_false, cond_false]
          rw [show s120_0b = s120_0 from rfl, e2]
          cases d <;> rfl
      rw [h141, h120]
      cases r with
      | none =>
        obtain ⟨z, rfl⟩ := e3
        exact ⟨none, none, false, rfl, rfl, rfl⟩
      | some y =>
        obtain ⟨x, rfl, hy⟩ := e3
        exact ⟨some y, x, true, rfl, rfl, rfl, hy⟩
def proveE (l : List GUnit) (below : Int) : Int := firstNZ [unitsE l, whenE (decide (8 < (l.length : Int))) 23, checkRange below 1 200001]
theorem prove_same (ho : o.getD [] = l) (ho' : o'.getD [] = l') (hll : l'.length = l.length) (hnear : near l' below = near l below) (hu : UnitsOk l) (hu' : UnitsOk l') (hl : l.length ≤ 8) : ∃ y x e, itO (s60 o' below) 0 = some e ∧ f64 o below = some (x, y) ∧ (match e with
    | .inl _ => y = 7 ∧ x = none
    | .inr z => y = 0 ∧ z.2.getD [] = x.getD []) := by
  have key : ∀ (j i : Nat), i + j = l.length + 1 → ∃ e d, itO (s60 o' below) (i : Int) = some e ∧ itO (s64_0 o below) (i : Int) = some d ∧ (match e with
      | .inl _ => ∃ z, d = .inr z
      | .inr z => ∃ x, d = .inl x ∧ z.2.getD [] = x.getD []) := by
    intro j
    have hw1 : wrapF .i64 ((l.length : Int) + 1) = ((l.length + 1 : Nat) : Int) := wrap_nat (by omega)
    induction j with
    | zero =>
      intro i hi
      have h1 : ¬ (i : Int) < ((l.length + 1 : Nat) : Int) := by omega
      have h2 : ¬ (i : Int) ≤ (l.length : Int) := by omega
      refine ⟨.inl (i : Int), .inr (i : Int), itO_out ?_, itO_out ?_, _, rfl⟩
      · unfold s60; simp only [ho', hll, hw1, h1, decide_false, cond_false]
      · unfold s64_0; simp only [ho, h2, decide_false, cond_false]
    | succ j ih =>
      intro i hi
      have h1 : (i : Int) < ((l.length + 1 : Nat) : Int) := by omega
      have h2 : (i : Int) ≤ (l.length : Int) := by omega
      have hw : wrapF .i64 ((i : Int) + 1) = ((i + 1 : Nat) : Int) := wrap_nat (by omega)
      obtain ⟨r, x, b, e1, e2, e3⟩ := sets_same (below := below) ho ho' hll hnear hu hu' (by omega) (size := i) (by omega) i 12 12 none none [] rfl rfl (by simp) (by omega) (by omega) (by simp)
      rw [show fromOf [] = 0 from rfl] at e1
      cases r with
      | none =>
        have hb : b = false := e3
        subst hb
        have s1 : s60 o' below (i : Int) = some (.inl ((i + 1 : Nat) : Int)) := by
          unfold s60
          simp only [ho', hll, hw1, h1, decide_true, cond_true, e1, obind_at, hw]
        have s2 : s64_0 o below (i : Int) = some (.inl ((i + 1 : Nat) : Int)) := by
          unfold s64_0
          simp only [ho, h2, decide_true, cond_true, e2, obind_at, cond_false, hw]
        rw [itO_in s1, itO_in s2]
        exact ih (i + 1) (by omega)
      | some y =>
        obtain ⟨hb, hy⟩ : b = true ∧ y.getD [] = x.getD [] := e3
        subst hb
        refine ⟨.inr ((i : Int), y), .inl x, itO_out ?_, itO_out ?_, x, rfl, hy⟩
        · unfold s60
          simp only [ho', hll, hw1, h1, decide_true, cond_true, e1, obind_at]
        · unfold s64_0
          simp only [ho, h2, decide_true, cond_true, e2, obind_at]
  obtain ⟨e, d, e1, e2, e3⟩ := key (l.length + 1) 0 (by omega)
  rw [Int.natCast_zero] at e1 e2
  unfold f64
  rw [e2]
  cases e with
  | inl i =>
    obtain ⟨z, rfl⟩ := e3
    exact ⟨7, none, .inl i, e1, rfl, rfl, rfl⟩
  | inr z =>
    obtain ⟨x, rfl, hx⟩ := e3
    exact ⟨0, x, .inr z, e1, rfl, rfl, hx⟩
end
end Go.Z
/-
  LineProofs: sets are checked, both ways; the law.
-/
set_option maxRecDepth 100000
set_option linter.unusedSimpArgs false
set_option linter.unusedVariables false
namespace Go.Z
open Go Go.Abs
def stepX (n : Int) (set : List Int) (i : Nat) : Int := match set[i]? with
  | none => 0
  | some x => if x < 0 ∨ n ≤ x then 10 else if 0 < i ∧ ∃ y, set[i - 1]? = some y ∧ x ≤ y then 11 else 0
theorem E94_2 (a b : Int) : E94 (some [a, b]) = some (firstNZ [a, b]) := exO_of ⟨by simp, by simp⟩
section
variable {l l' : List GUnit} {o o' : Option (List GUnit)} {below : Int} {a2 a2' : Option (List Int)} {set : List Int}
theorem stepX_out {n : Int} {i : Nat} (hi : i < set.length) (h : set[i] < 0 ∨ n ≤ set[i]) : stepX n set i = 10 := by
  unfold stepX; rw [List.getElem?_eq_getElem hi]; simp only []; rw [if_pos h]
theorem stepX_ord {n : Int} {i : Nat} (hi : i < set.length) (h : ¬ (set[i] < 0 ∨ n ≤ set[i])) (h0 : 0 < i) (h3 : set[i] ≤ set[i - 1]) : stepX n set i = 11 := by
  unfold stepX; rw [List.getElem?_eq_getElem hi]; simp only []; rw [if_neg h, if_pos ⟨h0, _, List.getElem?_eq_getElem _, h3⟩]
theorem stepX_fine {n : Int} {i : Nat} (hi : i < set.length) (h : ¬ (set[i] < 0 ∨ n ≤ set[i])) (h0 : 0 < i) (h3 : ¬ set[i] ≤ set[i - 1]) : stepX n set i = 0 := by
  unfold stepX; rw [List.getElem?_eq_getElem hi]; simp only []; rw [if_neg h, if_neg]
  rintro ⟨_, y, hy, hle⟩
  rw [List.getElem?_eq_getElem (by omega)] at hy
  have := Option.some.inj hy
  omega
theorem stepX_first {n : Int} {i : Nat} (hi : i < set.length) (h : ¬ (set[i] < 0 ∨ n ≤ set[i])) (h0 : ¬ 0 < i) : stepX n set i = 0 := by
  unfold stepX; rw [List.getElem?_eq_getElem hi]; simp only []; rw [if_neg h, if_neg fun h => h0 h.1]
theorem s65_eq (ho : o.getD [] = l) (h2 : a2.getD [] = set) (hl : l.length ≤ 64) (hs : set.length ≤ 64) {i : Nat} (hi : i < set.length) : s65_0 o below a2 (i : Int) = some (if stepX (l.length : Int) set i = 0 then .inl ((i + 1 : Nat) : Int) else .inr (.inl (stepX (l.length : Int) set i))) := by
  have hlt : (i : Int) < (set.length : Int) := by omega
  have hw : wrapF .i64 ((i : Int) + 1) = ((i + 1 : Nat) : Int) := wrap_nat (by omega)
  have hw2 : wrapF .i64 ((l.length : Int) - 1) = (l.length : Int) - 1 := wrapF_i64 (by omega) (by omega)
  have n10 : ¬ (10 : Int) = 0 := by decide
  have n11 : ¬ (11 : Int) = 0 := by decide
  unfold s65_0
  simp only [ho, h2, hlt, decide_true, cond_true, idxO_nat, List.getElem?_eq_getElem hi, obind_at, E23, hw2, range_iff, hw]
  by_cases h1 : 0 ≤ set[i] ∧ set[i] < (l.length : Int)
  · have h1' : ¬ (set[i] < 0 ∨ (l.length : Int) ≤ set[i]) := by omega
    simp only [h1, and_self, decide_true, cond_true]
    by_cases h0 : 0 < i
    · have h0' : (0 : Int) < (i : Int) := by omega
      have hwi : wrapF .i64 ((i : Int) - 1) = ((i - 1 : Nat) : Int) := by rw [wrapF_i64 (by omega) (by omega)]; omega
      simp only [h0', decide_true, cond_true, hwi, idxO_nat, List.getElem?_eq_getElem (show i - 1 < set.length by omega), obind_at]
      by_cases h3 : set[i] ≤ set[i - 1]
      · rw [stepX_ord hi h1' h0 h3]
        simp only [h3, decide_true, cond_true, n11, if_false]
      · rw [stepX_fine hi h1' h0 h3]
        simp only [h3, decide_false, cond_false, if_true]
    · have h0' : ¬ (0 : Int) < (i : Int) := by omega
      rw [stepX_first hi h1' h0]
      simp only [h0', decide_false, cond_false, if_true]
  · have h1' : set[i] < 0 ∨ (l.length : Int) ≤ set[i] := by omega
    rw [stepX_out hi h1']
    simp only [h1, decide_false, cond_false, n10, if_false]
theorem s61_eq (ho' : o'.getD [] = l') (hll : l'.length = l.length) (h2 : a2'.getD [] = set) (hl : l.length ≤ 64) (hs : set.length ≤ 64) {i : Nat} (hi : i < set.length) : s61_0 o' below a2' (i : Int) = some (if stepX (l.length : Int) set i = 0 then .inl ((i + 1 : Nat) : Int) else .inr (.inl (stepX (l.length : Int) set i))) := by
  have hlt : (i : Int) < (set.length : Int) := by omega
  have hw : wrapF .i64 ((i : Int) + 1) = ((i + 1 : Nat) : Int) := wrap_nat (by omega)
  have n10 : ¬ (10 : Int) = 0 := by decide
  have n11 : ¬ (11 : Int) = 0 := by decide
  have w1 : ∀ e, whenE true e = e := fun e => rfl
  have w0 : ∀ e, whenE false e = 0 := fun e => rfl
  have f1 : ∀ x : Int, firstNZ [10, x] = 10 := fun x => by simp [firstNZ]
  have f2 : firstNZ [0, 11] = 11 := by simp [firstNZ]
  have f3 : firstNZ [0, 0] = 0 := by simp [firstNZ]
  unfold s61_0
  simp only [ho', hll, h2, hlt, decide_true, cond_true, idxO_nat, List.getElem?_eq_getElem hi, obind_at, E24, E94_2, hw, w1, w0]
  have hidx : 0 < i → max 0 (wrapF .i64 ((i : Int) - 1)) = ((i - 1 : Nat) : Int) := fun h0 => by rw [wrapF_i64 (by omega) (by omega)]; omega
  by_cases h1 : set[i] < 0
  · rw [stepX_out (n := (l.length : Int)) hi (.inl h1)]
    simp only [h1, decide_true, cond_true, f1, n10, decide_false, cond_false, if_false]
    by_cases h0 : 0 < i
    · have h0' : (0 : Int) < (i : Int) := by omega
      simp only [h0', decide_true, cond_true, hidx h0, idxO_nat, List.getElem?_eq_getElem (show i - 1 < set.length by omega), obind_at]
    · have h0' : ¬ (0 : Int) < (i : Int) := by omega
      simp only [h0', decide_false, cond_false]
  · by_cases h1b : (l.length : Int) ≤ set[i]
    · rw [stepX_out hi (.inr h1b)]
      simp only [h1, h1b, decide_true, decide_false, cond_false, w1, f1, n10, if_false]
      by_cases h0 : 0 < i
      · have h0' : (0 : Int) < (i : Int) := by omega
        simp only [h0', decide_true, cond_true, hidx h0, idxO_nat, List.getElem?_eq_getElem (show i - 1 < set.length by omega), obind_at]
      · have h0' : ¬ (0 : Int) < (i : Int) := by omega
        simp only [h0', decide_false, cond_false]
    · have h1' : ¬ (set[i] < 0 ∨ (l.length : Int) ≤ set[i]) := by omega
      simp only [h1, h1b, decide_false, cond_false, w0]
      by_cases h0 : 0 < i
      · have h0' : (0 : Int) < (i : Int) := by omega
        simp only [h0', decide_true, cond_true, hidx h0, idxO_nat, List.getElem?_eq_getElem (show i - 1 < set.length by omega), obind_at]
        by_cases h3 : set[i] ≤ set[i - 1]
        · rw [stepX_ord hi h1' h0 h3]
          simp only [h3, decide_true, w1, f2, n11, decide_false, cond_false, if_false]
        · rw [stepX_fine hi h1' h0 h3]
          simp only [h3, decide_false, w0, f3, decide_true, cond_true, if_true]
      · have h0' : ¬ (0 : Int) < (i : Int) := by omega
        rw [stepX_first hi h1' h0]
        simp only [h0', decide_false, cond_false, f3, decide_true, cond_true, if_true]
theorem checks_same (ho : o.getD [] = l) (ho' : o'.getD [] = l') (hll : l'.length = l.length) (h2 : a2.getD [] = set) (h2' : a2'.getD [] = set) (hl : l.length ≤ 64) (hs : set.length ≤ 64) : ∀ (j i : Nat), i + j = set.length →
    (∃ e, itO (s61_0 o' below a2') (i : Int) = some (.inl e) ∧ itO (s65_0 o below a2) (i : Int) = some (.inl e)) ∨ (∃ z w, itO (s61_0 o' below a2') (i : Int) = some (.inr z) ∧ itO (s65_0 o below a2) (i : Int) = some (.inr w))
  | 0, i, hi => by
    have hlt : ¬ (i : Int) < (set.length : Int) := by omega
    refine .inr ⟨(i : Int), (i : Int), itO_out ?_, itO_out ?_⟩
    · unfold s61_0; simp only [h2', hlt, decide_false, cond_false]
    · unfold s65_0; simp only [h2, hlt, decide_false, cond_false]
  | j + 1, i, hi => by
    have e1 := s61_eq (below := below) ho' hll h2' hl hs (i := i) (by omega)
    have e2 := s65_eq (below := below) ho h2 hl hs (i := i) (by omega)
    by_cases hz : stepX (l.length : Int) set i = 0
    · rw [if_pos hz] at e1 e2
      rw [itO_in e1, itO_in e2]
      exact checks_same ho ho' hll h2 h2' hl hs j (i + 1) (by omega)
    · rw [if_neg hz] at e1 e2
      exact .inl ⟨_, itO_out e1, itO_out e2⟩
theorem check_same (ho : o.getD [] = l) (ho' : o'.getD [] = l') (hll : l'.length = l.length) (hnear : near l' below = near l below) (hu : UnitsOk l) (hu' : UnitsOk l') (h2 : a2.getD [] = set) (h2' : a2'.getD [] = set) (hl : l.length ≤ 64) (hs : set.length ≤ 64) :
    ∃ e, f65 o below a2 = some e ∧ (match itO (s61_0 o' below a2') 0 with
      | some (.inl d) => some d
      | some (.inr _) => obind (f119 o' below a2') fun v98 => obind (E24 (!v98) 22) fun v100 => some v100
      | none => none) = some e := by
  unfold f65
  rcases checks_same (below := below) ho ho' hll h2 h2' hl hs set.length 0 (by omega) with ⟨e, e1, e2⟩ | ⟨z, w, e1, e2⟩
  · rw [Int.natCast_zero] at e1 e2
    rw [e1, e2]
    exact ⟨e, rfl, rfl⟩
  · rw [Int.natCast_zero] at e1 e2
    obtain ⟨c, c1, c2⟩ := odd_same (below := below) ho ho' hll hnear hu hu' hl h2 h2' hs
    rw [e1, e2]
    simp only [obind_at, c1, c2, h2, E24]
    refine ⟨_, rfl, ?_⟩
    congr 1
    by_cases h : (set.length : Int) < c
    · have : ¬ c ≤ (set.length : Int) := by omega
      simp [h, this]
    · have : c ≤ (set.length : Int) := by omega
      simp [h, this]
end
end Go.Z
