/-
  LineLoads: its law holds of the function that mirrors the run.
-/
import Derived.Test.YtbkpojiedkhfkaaGreatD6
import Derived.Test.YtbkpojiedkhfkaaGreatD3
set_option linter.unusedVariables false
set_option linter.unusedSimpArgs false
set_option maxRecDepth 100000
set_option linter.unusedSimpArgs false
set_option linter.unusedVariables false
namespace Go.Z
open Go Go.Abs
theorem grow1 {β : Type} (s : List Int) (x : Int) (F : Option (List Int) → Option β) (hs : s.length ≤ 100) :
    cond (accO s) (obind (apO (nonNil s) [x]) F) (cond (nonNil s).isNone (obind (apO (nonNil s) [x]) F) none) = F (nonNil (s ++ [x])) := by
  cases s with
  | nil => rfl
  | cons y s =>
    have : apO (some (y :: s)) [x] = some (some ((y :: s) ++ [x])) := ap_one _ _ (by omega)
    simp only [nonNil, accO, List.isEmpty_cons, Bool.not_false, cond_true, this, obind_at]
    rfl
def stepL (w l r : List Int) (k : Int) (s : List Int × List Int × Int) (i : Nat) : List Int × List Int × Int :=
  (s.1 ++ [(l.getD i 0).tmod k], s.2.1 ++ [w.getD (r.getD i 0).toNat 0], s.2.2 + w.getD i 0)
theorem loop12 {a0 a1 : Option (List Int)} {a2 : GPair8} {v1 : Int} {v16 : (Option (List Int)) × Int × Int} {v18 v22 : Int × Int} {v24 v26 : (Option (List Int)) × Int × Int} {v28 : Option (List Int)} {w l r : List Int} {k : Int} {n : Nat}
    (hw : a0.getD [] = w) (hwl : w.length = n) (hn : n ≤ 6) (hl : a1.getD [] = l) (hln : n ≤ l.length) (hlb : ∀ x ∈ l, 0 ≤ x ∧ x ≤ 255) (hr : v28.getD [] = r) (hrn : r.length = n) (hrb : ∀ x ∈ r, 0 ≤ x ∧ x < (n : Int)) (hk : wrapF .i64 (1 + v1) = k) (hk1 : 1 ≤ k) (hwb : ∀ x ∈ w, 1 ≤ x ∧ x ≤ 100000) :
    itO (s12_0 a0 a1 a2 v1 v16 v18 v22 v24 v26 v28) (none, none, 0, 0, false, false) = some (nonNil ((List.range n).foldl (stepL w l r k) ([], [], 0)).1, accO ((List.range n).foldl (stepL w l r k) ([], [], 0)).1, nonNil ((List.range n).foldl (stepL w l r k) ([], [], 0)).2.1, accO ((List.range n).foldl (stepL w l r k) ([], [], 0)).2.1, ((List.range n).foldl (stepL w l r k) ([], [], 0)).2.2, (n : Int)) := by
  have hlen : (List.range n).length = n := List.length_range
  have key := itO_list (δ := Option (List Int) × Bool × Option (List Int) × Bool × Int × Int) (ε := Empty) (List.range n) (s12_0 a0 a1 a2 v1 v16 v18 v22 v24 v26 v28) (fun i (s : List Int × List Int × Int) => (nonNil s.1, nonNil s.2.1, s.2.2, (i : Int), accO s.1, accO s.2.1)) (fun _ s t => .inl (stepL w l r k s t)) (fun s => (nonNil s.1, accO s.1, nonNil s.2.1, accO s.2.1, s.2.2, (n : Int))) (fun d => nomatch d) (fun i s => s.1.length ≤ i ∧ s.2.1.length ≤ i ∧ 0 ≤ s.2.2 ∧ s.2.2 ≤ 100000 * i) ([], [], 0) ?_ ?_ ⟨Nat.le_refl _, Nat.le_refl _, Int.le_refl _, by simp⟩
  · have hrun : runL (δ := Empty) (fun _ (s : List Int × List Int × Int) (t : Nat) => .inl (stepL w l r k s t)) 0 ([], [], 0) (List.range n) = .inl ((List.range n).foldl (stepL w l r k) ([], [], 0)) := runL_fold (stepL w l r k) _ _ _
    rw [hrun, Int.natCast_zero] at key
    exact key
  · intro s _
    rw [hlen]
    unfold s12_0
    simp [hw, hwl]
  · intro i s t ht hi hs
    obtain ⟨rfl, hi'⟩ := range_atN ht
    obtain ⟨q1, q2, q3, q4⟩ := hs
    have hlt : (t : Int) < (w.length : Int) := by omega
    have g1 : idxO w (t : Int) = some w[t] := by rw [idxO_nat]; simp [show t < w.length by omega]
    have g2 : idxO l (t : Int) = some l[t] := by rw [idxO_nat]; simp [show t < l.length by omega]
    have g3 : idxO r (t : Int) = some r[t] := by rw [idxO_nat]; simp [show t < r.length by omega]
    have hb := hrb r[t] (List.getElem_mem (by omega))
    have hwt := hwb w[t] (List.getElem_mem (by omega))
    have hlt2 := hlb l[t] (List.getElem_mem (by omega))
    have g4 : idxO w r[t] = some (w.getD r[t].toNat 0) := by
      unfold idxO
      rw [if_pos hb.1, getD_lt (show r[t].toNat < w.length by omega), List.getElem?_eq_getElem]
    have w1 : wrapF .i64 l[t] = l[t] := wrapF_i64 (by omega) (by omega)
    have w2 : wrapF .i64 (s.2.2 + w[t]) = s.2.2 + w[t] := wrapF_i64 (by omega) (by omega)
    have w3 : wrapF .i64 ((t : Int) + 1) = ((t + 1 : Nat) : Int) := wrap_nat (by omega)
    have g5 : remO l[t] k = some (l[t].tmod k) := by unfold remO; rw [if_neg (by omega)]
    refine ⟨?_, ?_⟩
    · unfold stepL
      rw [getD_lt (show t < w.length by omega)]
      refine ⟨by simp; omega, by simp; omega, by simp only []; omega, by simp only []; omega⟩
    · unfold s12_0
      simp only [hw, hl, hr, hlt, decide_true, cond_true, g1, g2, g3, g4, obind_at, w1, hk, g5]
      rw [grow1 _ _ _ (by omega), grow1 _ _ _ (by omega), w2, w3]
      unfold stepL
      rw [getD_lt (show t < w.length by omega), getD_lt (show t < l.length by omega), getD_lt (show t < r.length by omega)]
      simp [accO]
theorem fold_stepL (w l r : List Int) (k : Int) : ∀ (ts : List Nat) (s : List Int × List Int × Int), ts.foldl (stepL w l r k) s = (s.1 ++ ts.map (fun i => (l.getD i 0).tmod k), s.2.1 ++ ts.map (fun i => w.getD (r.getD i 0).toNat 0), s.2.2 + sumI (ts.map fun i => w.getD i 0))
  | [], s => by simp [sumI]
  | t :: ts, s => by
    rw [List.foldl_cons, fold_stepL w l r k ts]
    unfold stepL
    have hs : sumI ((t :: ts).map fun i => w.getD i 0) = w.getD t 0 + sumI (ts.map fun i => w.getD i 0) := rfl
    rw [hs]
    simp [Int.add_assoc]
theorem map_getD (w : List Int) : (List.range w.length).map (fun i => w.getD i 0) = w := by
  apply List.ext_getElem (by simp)
  intro i h1 h2
  rw [List.getElem_map, List.getElem_range, getD_lt h2]
theorem turned_perm {w r : List Int} (hr : r.Perm (upto w.length)) : ((List.range w.length).map fun i => w.getD (r.getD i 0).toNat 0).Perm w := by
  have hrl : r.length = w.length := by rw [hr.length_eq, upto_len]
  have e1 : ((List.range w.length).map fun i => w.getD (r.getD i 0).toNat 0) = r.map fun x => w.getD x.toNat 0 := by
    apply List.ext_getElem (by simp [hrl])
    intro i h1 h2
    simp only [List.getElem_map, List.getElem_range]
    rw [getD_lt (l := r) (by simpa using h2)]
  have e2 : (upto w.length).map (fun x => w.getD x.toNat 0) = w := by
    unfold upto
    rw [List.map_map]
    have : ((fun x : Int => w.getD x.toNat 0) ∘ fun (i : Nat) => (i : Int)) = fun i => w.getD i 0 := by funext i; simp
    rw [this, map_getD]
  rw [e1]
  have := hr.map fun x : Int => w.getD x.toNat 0
  rw [e2] at this
  exact this
end Go.Z
/-
  LineLoads: parts of the law.
-/
set_option maxRecDepth 100000
set_option linter.unusedSimpArgs false
set_option linter.unusedVariables false
namespace Go.Z
open Go Go.Abs
theorem f74_opt {ow : Option (List Int)} {w : List Int} {k : Nat} (h : ow.getD [] = w) (hz : workE w (k : Int) = 0) : ∃ s, f74 ow (k : Int) = some (s, opt w k, 0) ∧ Sched k w.length (s.getD []) ∧ endS w (s.getD []) = opt w k := by
  obtain ⟨hwo, hk1, hk4⟩ := workE_ok hz
  have hlen := hwo.len
  by_cases hne : w = []
  · subst hne
    refine ⟨none, ?_, ⟨by simp, by simp⟩, ?_⟩
    · rw [f74_nil h, hz]; rfl
    · rfl
  · obtain ⟨t, h1, h2, h3⟩ := opt_is (w := w) (k := k) (by omega)
    refine ⟨some t, ?_, h1, h3.symm⟩
    rw [f74_eq (by rw [h]; omega) (by rw [h]; exact hne), h, hz, if_pos rfl, Int.toNat_natCast, h2, h3]
theorem f75_sched {ow ol : Option (List Int)} {w l : List Int} {k : Nat} (h : ow.getD [] = w) (h2 : ol.getD [] = l) (hz : workE w (k : Int) = 0) (hs : Sched k w.length l) : f75 ow (k : Int) ol = some (endS w l, 0) := by
  obtain ⟨hwo, hk1, hk4⟩ := workE_ok hz
  have hlen := hwo.len
  have hb : l.any (badX (k : Int)) = false := by
    rw [List.any_eq_false]
    intro x hx
    have := hs.2 x hx
    unfold badX
    simp; omega
  rw [f75_eq (by rw [h]; omega) (by rw [h2, hs.1]; omega), h, h2, hz, if_pos rfl]
  have : schE w (k : Int) l = 0 := by unfold schE; rw [if_pos hs.1, hb]; rfl
  rw [this, if_pos rfl]
end Go.Z
