/-
  LinePairs: the typical unit.
-/
import Derived.Test.YtbkpojiedkhfkaaGreatQ1
set_option linter.unusedVariables false
set_option linter.unusedSimpArgs false
set_option maxRecDepth 100000
set_option linter.unusedSimpArgs false
set_option linter.unusedVariables false
namespace Go.Z
open Go Go.Abs
theorem map_loop {α : Type} {l : List α} {g : α → Int} {f : Option (List Int) × Int × Bool → Option ((Option (List Int) × Int × Bool) ⊕ (Option (List Int) × Bool × Int))} (hn : l.length ≤ 1000)
    (hend : ∀ s b, f (s, (l.length : Int), b) = some (.inr (s, b, (l.length : Int))))
    (hstep : ∀ (i : Nat) (x : α) (s : List Int), l[i]? = some x → i < l.length → s.length ≤ i → f (nonNil s, (i : Int), accO s) = some (.inl (nonNil (s ++ [g x]), ((i + 1 : Nat) : Int), true))) :
    itO f (none, 0, false) = some (nonNil (l.map g), accO (l.map g), (l.length : Int)) := by
  have key := itO_list (δ := Option (List Int) × Bool × Int) (ε := Empty) l f (fun i (s : List Int) => (nonNil s, (i : Int), accO s)) (fun _ s (x : α) => .inl (s ++ [g x])) (fun s => (nonNil s, accO s, (l.length : Int))) (fun d => nomatch d) (fun i s => s.length ≤ i) [] ?_ ?_ (Nat.le_refl _)
  · have hf : runL (δ := Empty) (fun _ (s : List Int) (x : α) => .inl (s ++ [g x])) 0 [] l = .inl (l.map g) := by
      rw [show (fun (_ : Nat) (s : List Int) (x : α) => (Sum.inl (s ++ [g x]) : List Int ⊕ Empty)) = fun _ s x => .inl ((fun (s : List Int) (x : α) => s ++ [g x]) s x) from rfl, runL_fold]
      congr 1
      have : ∀ (l : List α) (s : List Int), l.foldl (fun (s : List Int) (x : α) => s ++ [g x]) s = s ++ l.map g := by
        intro l
        induction l with
        | nil => intro s; simp
        | cons t l ih => intro s; rw [List.foldl_cons, ih]; simp
      simpa using this l []
    rw [hf] at key
    exact key
  · intro s _
    exact hend _ _
  · intro i s x hi hlt hs
    refine ⟨by rw [List.length_append, List.length_singleton]; omega, ?_⟩
    rw [hstep i x s hi hlt hs]
    simp [accO]
def radius (l : List GUnit) (u : GUnit) : Int := (l.map (diffU u)).foldl max 0
theorem maxL_zero {l : List Int} (hne : l ≠ []) (h : ∀ x ∈ l, 0 ≤ x) : maxL l = l.foldl max 0 := by
  cases l with
  | nil => exact absurd rfl hne
  | cons x l =>
    have := h x (List.mem_cons_self ..)
    show l.foldl max x = l.foldl max (max 0 x)
    rw [show max 0 x = x by omega]
theorem minL_spec : ∀ (l : List Int) (a : Int), (l.foldl min a = a ∨ l.foldl min a ∈ l) ∧ l.foldl min a ≤ a ∧ ∀ x ∈ l, l.foldl min a ≤ x
  | [], a => ⟨.inl rfl, Int.le_refl _, by simp⟩
  | y :: l, a => by
    obtain ⟨h1, h2, h3⟩ := minL_spec l (min a y)
    rw [List.foldl_cons]
    refine ⟨?_, by omega, fun x hx => ?_⟩
    · rcases h1 with h1 | h1
      · rw [h1]
        by_cases h : a ≤ y
        · exact .inl (by omega)
        · exact .inr (by rw [show min a y = y by omega]; exact List.mem_cons_self ..)
      · exact .inr (List.mem_cons_of_mem _ h1)
    · rcases List.mem_cons.1 hx with rfl | hx
      · omega
      · exact h3 x hx
def FirstMin (R : List Int) (k : Nat) : Prop := ∃ m, R[k]? = some m ∧ ∀ (j : Nat) x, R[j]? = some x → m ≤ x ∧ (j < k → m < x)
theorem firstMin_min {R : List Int} {k : Nat} {m : Int} (hk : R[k]? = some m) (h : ∀ (j : Nat) x, R[j]? = some x → m ≤ x ∧ (j < k → m < x)) : minL R = m := by
  cases R with
  | nil => simp at hk
  | cons a l =>
    obtain ⟨h1, h2, h3⟩ := minL_spec l a
    have hm : m ∈ a :: l := List.mem_of_getElem? hk
    have hle : minL (a :: l) ≤ m := by
      rcases List.mem_cons.1 hm with rfl | hm
      · exact h2
      · exact h3 _ hm
    have hin : minL (a :: l) ∈ a :: l := by
      rcases h1 with h1 | h1
      · rw [show minL (a :: l) = a from h1]; exact List.mem_cons_self ..
      · exact List.mem_cons_of_mem _ h1
    obtain ⟨j, hj⟩ := List.mem_iff_getElem?.1 hin
    have := (h j _ hj).1
    omega
theorem f116_eq {R : List Int} {k : Nat} {m : Int} (hn : R.length ≤ 1000) (hk : R[k]? = some m) (h : ∀ (j : Nat) x, R[j]? = some x → m ≤ x ∧ (j < k → m < x)) : f116 (some R) m = some (k : Int) := by
  have hkl : k < R.length := (List.getElem?_eq_some_iff.1 hk).1
  have key : ∀ (n i : Nat), i + n = k → itO (s116_0 (some R) m) (i : Int) = some (.inl (k : Int)) := by
    intro n
    induction n with
    | zero =>
      intro i hi
      have : i = k := by omega
      subst this
      refine itO_out ?_
      have hlt : (i : Int) < (R.length : Int) := by omega
      unfold s116_0
      simp [hlt, idxO_nat, hk, obind_at]
    | succ n ih =>
      intro i hi
      have hlt : (i : Int) < (R.length : Int) := by omega
      have hil : i < R.length := by omega
      have hx := (h i _ (List.getElem?_eq_getElem hil)).2 (by omega)
      have hne : ¬ m = R[i] := by omega
      have e : s116_0 (some R) m (i : Int) = some (.inl ((i + 1 : Nat) : Int)) := by
        unfold s116_0
        simp only [Option.getD_some, hlt, decide_true, cond_true, idxO_nat, List.getElem?_eq_getElem hil, obind_at, hne, decide_false, cond_false, wrap_nat (show i < 9223372036854775807 by omega)]
      rw [itO_in e]
      exact ih (i + 1) (by omega)
  unfold f116
  have := key k 0 (by omega)
  rw [Int.natCast_zero] at this
  rw [this]; rfl
theorem in72 {o : Option (List GUnit)} {l : List GUnit} (h : o.getD [] = l) (hu : UnitsOk l) (hn : l.length ≤ 1000) {i : Nat} {u : GUnit} (hi : l[i]? = some u) (b m : Int) :
    itO (s72_1 o (b, m, (i : Int))) (0, 0) = some (radius l u, (l.length : Int)) := by
  have hil : i < l.length := (List.getElem?_eq_some_iff.1 hi).1
  have hum := List.mem_of_getElem? hi
  have key := itO_list (δ := Int × Int) (ε := Empty) l (s72_1 o (b, m, (i : Int))) (fun k s => (s, (k : Int))) (fun _ s (w : GUnit) => .inl (max s (diffU u w))) (fun s => (s, (l.length : Int))) (fun d => nomatch d) (fun _ _ => True) 0 ?_ ?_ trivial
  · have hf : runL (δ := Empty) (fun _ (s : Int) (w : GUnit) => .inl (max s (diffU u w))) 0 0 l = .inl (radius l u) := by
      unfold radius
      rw [List.foldl_map]
      exact runL_fold (fun (s : Int) (w : GUnit) => max s (diffU u w)) _ _ _
    rw [hf, Int.natCast_zero] at key
    exact key
  · intro s _
    unfold s72_1
    simp [h]
  · intro k s w hk hlt _
    have hw := List.mem_of_getElem? hk
    have hlt' : (k : Int) < (l.length : Int) := by omega
    refine ⟨trivial, ?_⟩
    unfold s72_1
    simp only [h, hlt', decide_true, cond_true, idxO_nat, hi, hk, obind_at, f68_f115, f115_eq (hu.ok u hum) (hu.ok w hw) (hu.same u hum w hw), wrap_nat (show k < 9223372036854775807 by omega)]
theorem f72_eq {o : Option (List GUnit)} {l : List GUnit} (h : o.getD [] = l) (hu : UnitsOk l) (hn : l.length ≤ 1000) (hne : l ≠ []) : ∃ k : Nat, f72 o = some (k : Int) ∧ FirstMin (l.map (radius l)) k := by
  let R := l.map (radius l)
  have hR : R.length = l.length := List.length_map ..
  have hpos : 0 < l.length := List.length_pos_iff.2 hne
  let Inv : Int × Int × Int → Prop := fun s => ∃ n : Nat, s.2.2 = (n : Int) ∧ n ≤ l.length ∧ ((n = 0 ∧ s.1 = 0) ∨ ∃ b : Nat, s.1 = (b : Int) ∧ b < n ∧ R[b]? = some s.2.1 ∧ ∀ (j : Nat) x, j < n → R[j]? = some x → s.2.1 ≤ x ∧ (j < b → s.2.1 < x))
  have key := itO_total (f := s72_0 o) Inv (fun d => ∃ k : Nat, d.1 = (k : Int) ∧ FirstMin R k) (fun s => (l.length - s.2.2.toNat)) (by
    rintro ⟨b, m, i⟩ ⟨n, hi, hnl, hcase⟩
    simp only at hi hcase
    subst hi
    by_cases hlt : n < l.length
    · refine .inl ?_
      have hlt' : (n : Int) < (l.length : Int) := by omega
      have hin := in72 h hu hn (List.getElem?_eq_getElem hlt) b m
      have hRn : R[n]? = some (radius l l[n]) := by show (l.map (radius l))[n]? = _; rw [List.getElem?_map, List.getElem?_eq_getElem hlt]; rfl
      have hw : wrapF .i64 ((n : Int) + 1) = ((n + 1 : Nat) : Int) := wrap_nat (by omega)
      rcases hcase with ⟨h0, hb⟩ | ⟨bn, hb, hbn, hm, hall⟩
      · subst h0
        refine ⟨((0 : Nat), radius l l[0], ((0 + 1 : Nat) : Int)), ?_, ⟨1, rfl, by omega, .inr ⟨0, rfl, by omega, hRn, ?_⟩⟩, ?_⟩
        · unfold s72_0
          simp only [h, hlt', decide_true, cond_true, hin, obind_at, hw]
          simp
        · intro j x hj hx
          have : j = 0 := by omega
          subst this
          rw [hRn] at hx
          cases hx
          exact ⟨Int.le_refl _, fun h => by omega⟩
        · simp only; omega
      · have hn0 : ¬ (n : Int) = 0 := by omega
        by_cases hless : radius l l[n] < m
        · refine ⟨((n : Nat), radius l l[n], ((n + 1 : Nat) : Int)), ?_, ⟨n + 1, rfl, by omega, .inr ⟨n, rfl, by omega, hRn, ?_⟩⟩, ?_⟩
          · unfold s72_0
            simp only [h, hlt', decide_true, cond_true, hin, obind_at, hw, hn0, decide_false, cond_false, hless]
          · intro j x hj hx
            by_cases hjn : j = n
            · subst hjn; rw [hRn] at hx; cases hx; exact ⟨Int.le_refl _, fun h => by omega⟩
            · have := (hall j x (by omega) hx).1
              exact ⟨by simp only; omega, fun _ => by simp only; omega⟩
          · simp only; omega
        · refine ⟨(b, m, ((n + 1 : Nat) : Int)), ?_, ⟨n + 1, rfl, by omega, .inr ⟨bn, hb, by omega, hm, ?_⟩⟩, ?_⟩
          · unfold s72_0
            simp only [h, hlt', decide_true, cond_true, hin, obind_at, hw, hn0, decide_false, cond_false, hless]
          · intro j x hj hx
            by_cases hjn : j = n
            · subst hjn; rw [hRn] at hx; cases hx; exact ⟨by simp only; omega, fun h => by omega⟩
            · exact hall j x (by omega) hx
          · simp only; omega
    · refine .inr ⟨(b, m, (n : Int)), ?_, ?_⟩
      · have hlt' : ¬ (n : Int) < (l.length : Int) := by omega
        unfold s72_0
        simp only [h, hlt', decide_false, cond_false]
      · rcases hcase with ⟨h0, _⟩ | ⟨bn, hb, hbn, hm, hall⟩
        · omega
        · exact ⟨bn, hb, m, hm, fun j x hx => hall j x (by have := (List.getElem?_eq_some_iff.1 hx).1; omega) hx⟩) l.length (0, 0, 0) (by simp) ⟨0, rfl, by omega, .inl ⟨rfl, rfl⟩⟩
  obtain ⟨d, hd, k, hk, hf⟩ := key
  refine ⟨k, ?_, hf⟩
  unfold f72
  rw [hd]
  simp only [obind_at, hk]
theorem f90b_eq {o : Option (List GUnit)} {l : List GUnit} {u : GUnit} (h : o.getD [] = l) (hu : UnitsOk l) (hn : l.length ≤ 1000) (hum : u ∈ l) (c0 : Option (List GUnit)) (c1 : List UInt8) (c2 : Option (List Int)) : f90b o c0 c1 c2 u.serial u.values = some (nonNil (l.map (diffU u)), accO (l.map (diffU u))) := by
  have key := map_loop (l := l) (g := diffU u) (f := s90_0b o c0 c1 c2 u.serial u.values) hn (by intro s b; unfold s90_0b; simp [h]) (by
    intro i w s hi hlt hs
    have hw := List.mem_of_getElem? hi
    have hlt' : (i : Int) < (l.length : Int) := by omega
    have e114 : f114 w c0 c1 c2 u.serial u.values w.serial w.values = some (diffU u w) := by
      unfold f114
      rw [show (⟨u.serial, u.values⟩ : GUnit) = u from rfl, f115_eq (hu.ok u hum) (hu.ok w hw) (hu.same u hum w hw)]
      rfl
    unfold s90_0b
    simp only [h, hlt', decide_true, cond_true, idxO_nat, hi, obind_at, e114, wrap_nat (show i < 9223372036854775807 by omega)]
    rw [growG _ _ _ (by omega)])
  unfold f90b
  rw [key]; rfl
theorem f113_eq {o : Option (List GUnit)} {l : List GUnit} {u : GUnit} (h : o.getD [] = l) (hu : UnitsOk l) (hn : l.length ≤ 1000) (hum : u ∈ l) (c1 : List UInt8) (c2 : Option (List Int)) : f113 u o c1 c2 = some (radius l u) := by
  unfold f113
  rw [f90b_eq h hu hn hum]
  have hne : l.map (diffU u) ≠ [] := by intro e; rw [List.map_eq_nil_iff] at e; rw [e] at hum; cases hum
  have hge : ∀ x ∈ l.map (diffU u), 0 ≤ x := by
    intro x hx
    obtain ⟨w, hw, rfl⟩ := List.mem_map.1 hx
    exact (diffU_bounds (hu.ok u hum) (hu.ok w hw)).1
  have e93 : E93 (nonNil (l.map (diffU u))) = some (maxL (l.map (diffU u))) := by
    have := nonNil_get' (l.map (diffU u))
    unfold E93
    rw [exO_of ⟨by rw [this, List.length_map]; omega, by rw [this]; exact hne⟩, this]
  simp only [obind_at, e93, maxL_zero hne hge]
  rfl
theorem f90a_eq {o : Option (List GUnit)} {l : List GUnit} (h : o.getD [] = l) (hu : UnitsOk l) (hn : l.length ≤ 1000) : f90a o o = some (nonNil (l.map (radius l)), accO (l.map (radius l))) := by
  have key := map_loop (l := l) (g := radius l) (f := s90_0a o o) hn (by intro s b; unfold s90_0a; simp [h]) (by
    intro i w s hi hlt hs
    have hw := List.mem_of_getElem? hi
    have hlt' : (i : Int) < (l.length : Int) := by omega
    unfold s90_0a
    simp only [h, hlt', decide_true, cond_true, idxO_nat, hi, obind_at, f113_eq h hu hn hw, wrap_nat (show i < 9223372036854775807 by omega)]
    rw [growG _ _ _ (by omega)])
  unfold f90a
  rw [key]; rfl
theorem typical_eq {o o' : Option (List GUnit)} {l : List GUnit} (h : o.getD [] = l) (h' : o'.getD [] = l) (hu : UnitsOk l) (hn : l.length ≤ 1000) (hne : l ≠ []) : ∃ k : Nat, f72 o = some (k : Int) ∧ FirstMin (l.map (radius l)) k ∧
    (obind (f90a o' o') fun v8 => obind (E92 v8.1) fun v10 => obind (f116 v8.1 v10) fun v12 => some (v12, (0 : Int))) = some ((k : Int), 0) := by
  obtain ⟨k, h1, h2⟩ := f72_eq h hu hn hne
  refine ⟨k, h1, h2, ?_⟩
  obtain ⟨m, hm, hall⟩ := h2
  rw [f90a_eq h' hu hn]
  have hR : l.map (radius l) ≠ [] := by intro e; rw [List.map_eq_nil_iff] at e; exact hne e
  have hs : nonNil (l.map (radius l)) = some (l.map (radius l)) := by
    cases hc : l.map (radius l) with
    | nil => exact absurd hc hR
    | cons x t => rfl
  have e92 : E92 (some (l.map (radius l))) = some (minL (l.map (radius l))) := by
    unfold E92
    rw [exO_of ⟨by simp; omega, by simpa using hne⟩]; rfl
  simp only [obind_at, hs, e92, firstMin_min hm hall, f116_eq (by rw [List.length_map]; exact hn) hm hall]
end Go.Z
